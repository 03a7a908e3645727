/- Part 3 of the common texts: K1 L1 SF S1 S2 S3 S4 S5 S6 S7 L3 L0 L4 K2 S8 S9 L2 C1 C2 C3 S10 S11 D1. -/
import Derived.Test.YtkccmlagckaloaaGreatProg
import Derived.Shelf.SlSortCmp.NoneTotal
import Derived.Shelf.Small.Bits
import Derived.Shelf.Small.Strs
import Derived.Ground.SlsfProg
import Derived.Ground.NamesProg
import Derived.Shelf.GgSortFunc.InsertionK
import Derived.Shelf.SlSortCmp.Kit1
import Derived.Shelf.Sort.Plain
import Derived.Shelf.Slices.In.SortNone
import Derived.Sort.Walk0
import Derived.Test.YtkccmlagckaloaaGreatPart1
import Derived.Test.YtkccmlagckaloaaGreatPart2
set_option linter.all false

section
namespace Go.VC.T35
open Go Go.VC Go.Proofs
def tab : List (TypeId × TI) := [
  (3, { agg := false, cks := [.int .i64], fs := [], el := 0, ar := 0, bytes := 8 }),
  (4, { agg := false, cks := [.bool], fs := [], el := 0, ar := 0, bytes := 1 }),
  (9, { agg := false, cks := [.str], fs := [], el := 0, ar := 0, bytes := 16 }),
  (22, { agg := false, cks := [.slice 65], fs := [], el := 65, ar := 0, bytes := 24 }),
  (23, { agg := false, cks := [.slice 65], fs := [], el := 65, ar := 0, bytes := 24 }),
  (25, { agg := true, cks := [.str, .slice 65], fs := [(0, 9), (1, 23)], el := 0, ar := 0, bytes := 40 }),
  (28, { agg := false, cks := [.slice 51], fs := [], el := 51, ar := 0, bytes := 24 }),
  (29, { agg := false, cks := [.slice 51], fs := [], el := 51, ar := 0, bytes := 24 }),
  (34, { agg := false, cks := [.fn], fs := [], el := 0, ar := 0, bytes := 8 }),
  (35, { agg := false, cks := [.int .i64], fs := [], el := 0, ar := 0, bytes := 8 }),
  (39, { agg := false, cks := [.slice 45], fs := [], el := 45, ar := 0, bytes := 24 }),
  (43, { agg := true, cks := [.int .i64, .int .i64, .int .i64], fs := [(0, 3), (1, 3), (2, 3)], el := 0, ar := 0, bytes := 24 }),
  (45, { agg := true, cks := [.str, .int .i64, .int .i64, .int .i64], fs := [(0, 9), (1, 43)], el := 0, ar := 0, bytes := 40 }),
  (48, { agg := false, cks := [.fn], fs := [], el := 0, ar := 0, bytes := 8 }),
  (51, { agg := true, cks := [.str, .bool, .slice 65], fs := [(0, 9), (1, 4), (2, 23)], el := 0, ar := 0, bytes := 48 }),
  (53, { agg := false, cks := [.fn], fs := [], el := 0, ar := 0, bytes := 8 }),
  (55, { agg := false, cks := [.int .u32], fs := [], el := 0, ar := 0, bytes := 4 }),
  (56, { agg := false, cks := [.map 56], fs := [], el := 3, ar := 10, bytes := 8 }),
  (65, { agg := true, cks := [.int .i64, .int .i64], fs := [(0, 3), (1, 3)], el := 0, ar := 0, bytes := 16, eqOk := true }),
  (74, { agg := false, cks := [.fn], fs := [], el := 0, ar := 0, bytes := 8 }),
  (78, { agg := false, cks := [.slice 23], fs := [], el := 23, ar := 0, bytes := 24 }),
  (84, { agg := false, cks := [.fn], fs := [], el := 0, ar := 0, bytes := 8 }),
  (85, { agg := false, cks := [.map 85], fs := [], el := 51, ar := 10, bytes := 8 }),
  (89, { agg := false, cks := [.fn], fs := [], el := 0, ar := 0, bytes := 8 }),
  (91, { agg := false, cks := [.fn], fs := [], el := 0, ar := 0, bytes := 8 }),
  (94, { agg := true, cks := [.int .i64, .int .i64, .int .i64], fs := [], el := 3, ar := 4, bytes := 24 }),
  (99, { agg := false, cks := [.int .u64], fs := [], el := 0, ar := 0, bytes := 8 }),
  (100, { agg := false, cks := [.map 100], fs := [], el := 3, ar := 4, bytes := 8 }),
  (101, { agg := false, cks := [.slice 3], fs := [], el := 3, ar := 0, bytes := 24 }),
  (105, { agg := false, cks := [.fn], fs := [], el := 0, ar := 0, bytes := 8 }),
  (107, { agg := false, cks := [.int .i64], fs := [], el := 0, ar := 0, bytes := 8 }),
  (115, { agg := false, cks := [.int .u64], fs := [], el := 0, ar := 0, bytes := 8 }),
  (118, { agg := false, cks := [.int .u64], fs := [], el := 0, ar := 0, bytes := 8 }),
  (122, { agg := false, cks := [.ptr 3], fs := [], el := 0, ar := 0, bytes := 8 })]

def tt : TypeId → Option TI := findT tab
set_option maxRecDepth 100000 in
theorem tab_ok : tabCheck Tryz.prog tab = true := by kernel_rfl
set_option maxRecDepth 100000 in
theorem eqs_ok : eqTabCheck Tryz.prog tab = true := by kernel_rfl
theorem tt_ok : TtOk Tryz.prog tt := TtOk_of tab_ok (eqTab_ok eqs_ok)
theorem mixed : Tryz.prog.follows .mixedOrders = true := by kernel_rfl
end Go.VC.T35
end

section
/- The library's sorting contracts at this program (written by the kit's lay-plain.mjs). -/
namespace Go.Proofs
open Go.Shelf
def Tryz.sortTerm_ren : Go.Shelf.Ren := ⟨fun | 14 => 84 | 20 => 93 | 21 => 94 | 22 => 95 | 23 => 96 | 24 => 97 | 25 => 98 | 26 => 99 | 27 => 100 | 46 => 106 | 47 => 107 | 48 => 108 | 49 => 109 | 50 => 110 | 15 => 85 | 57 => 128 | 28 => 101 | 29 => 102 | n => n, fun | 24 => 51 | 22 => 28 | 3 => 3 | 25 => 89 | 4 => 4 | 0 => 0 | 46 => 108 | 45 => 107 | 50 => 57 | 66 => 118 | 39 => 99 | 55 => 115 | 70 => 122 | 76 => 135 | 77 => 136 | 53 => 55 | 5 => 5 | 9 => 9 | n => n, fun | n => n⟩
theorem Tryz.sortTerm : Go.Proofs.SlLaysF0.n14 Tryz.prog Tryz.sortTerm_ren := {
  mixed := by kernel_rfl
  f14 := ⟨Tryz.f84.name, by decide, Tryz.func84.trans (congrArg some (by kernel_rfl))⟩
  f15 := Tryz.func85.trans (congrArg some (by kernel_rfl))
  f20 := ⟨Tryz.f93.name, by decide, Tryz.func93.trans (congrArg some (by kernel_rfl))⟩
  f21 := ⟨Tryz.f94.name, by decide, Tryz.func94.trans (congrArg some (by kernel_rfl))⟩
  f22 := ⟨Tryz.f95.name, by decide, Tryz.func95.trans (congrArg some (by kernel_rfl))⟩
  f23 := ⟨Tryz.f96.name, by decide, Tryz.func96.trans (congrArg some (by kernel_rfl))⟩
  f24 := ⟨Tryz.f97.name, by decide, Tryz.func97.trans (congrArg some (by kernel_rfl))⟩
  f25 := ⟨Tryz.f98.name, by decide, Tryz.func98.trans (congrArg some (by kernel_rfl))⟩
  f26 := ⟨Tryz.f99.name, by decide, Tryz.func99.trans (congrArg some (by kernel_rfl))⟩
  f27 := ⟨Tryz.f100.name, by decide, Tryz.func100.trans (congrArg some (by kernel_rfl))⟩
  f28 := Tryz.func101.trans (congrArg some (by kernel_rfl))
  f29 := Tryz.func102.trans (congrArg some (by kernel_rfl))
  f46 := ⟨Tryz.f106.name, by decide, Tryz.func106.trans (congrArg some (by kernel_rfl))⟩
  f47 := Tryz.func107.trans (congrArg some (by kernel_rfl))
  f48 := Tryz.func108.trans (congrArg some (by kernel_rfl))
  f49 := ⟨Tryz.f109.name, by decide, Tryz.func109.trans (congrArg some (by kernel_rfl))⟩
  f50 := ⟨Tryz.f110.name, by decide, Tryz.func110.trans (congrArg some (by kernel_rfl))⟩
  f57 := ⟨Tryz.f128.name, by decide, Tryz.func128.trans (congrArg some (by kernel_rfl))⟩
  t0 := Tryz.underlying0
  a0 := Tryz.isAgg0
  z0 := Tryz.sizeOf0
  v0 := Tryz.zeroValue0
  t3 := Tryz.underlying3
  a3 := Tryz.isAgg3
  z3 := Tryz.sizeOf3
  v3 := Tryz.zeroValue3
  t4 := Tryz.underlying4
  a4 := Tryz.isAgg4
  z4 := Tryz.sizeOf4
  v4 := Tryz.zeroValue4
  t5 := Tryz.underlying5
  a5 := Tryz.isAgg5
  z5 := Tryz.sizeOf5
  v5 := Tryz.zeroValue5
  t9 := Tryz.underlying9
  a9 := Tryz.isAgg9
  z9 := Tryz.sizeOf9
  v9 := Tryz.zeroValue9
  t22 := Tryz.underlying28
  a22 := Tryz.isAgg28
  z22 := Tryz.sizeOf28
  v22 := Tryz.zeroValue28
  t25 := Tryz.underlying89
  a25 := Tryz.isAgg89
  z25 := Tryz.sizeOf89
  v25 := Tryz.zeroValue89
  t39 := Tryz.underlying99
  a39 := Tryz.isAgg99
  z39 := Tryz.sizeOf99
  v39 := Tryz.zeroValue99
  t45 := Tryz.underlying107
  a45 := Tryz.isAgg107
  z45 := Tryz.sizeOf107
  v45 := Tryz.zeroValue107
  t46 := Tryz.underlying108
  a46 := Tryz.isAgg108
  z46 := Tryz.sizeOf108
  v46 := Tryz.zeroValue108
  t50 := Tryz.underlying57
  a50 := Tryz.isAgg57
  z50 := Tryz.sizeOf57
  v50 := Tryz.zeroValue57
  t53 := Tryz.underlying55
  a53 := Tryz.isAgg55
  z53 := Tryz.sizeOf55
  v53 := Tryz.zeroValue55
  t55 := Tryz.underlying115
  a55 := Tryz.isAgg115
  z55 := Tryz.sizeOf115
  v55 := Tryz.zeroValue115
  t66 := Tryz.underlying118
  a66 := Tryz.isAgg118
  z66 := Tryz.sizeOf118
  v66 := Tryz.zeroValue118
  t70 := Tryz.underlying122
  a70 := Tryz.isAgg122
  z70 := Tryz.sizeOf122
  v70 := Tryz.zeroValue122
  t76 := Tryz.underlying135
  a76 := Tryz.isAgg135
  z76 := Tryz.sizeOf135
  v76 := Tryz.zeroValue135
  t77 := Tryz.underlying136
  a77 := Tryz.isAgg136
  z77 := Tryz.sizeOf136
  v77 := Tryz.zeroValue136 }
def Tryz.sortSpan_ren : Go.Shelf.Ren := ⟨fun | 14 => 105 | 20 => 120 | 21 => 121 | 22 => 122 | 23 => 123 | 24 => 124 | 25 => 125 | 26 => 126 | 27 => 127 | 46 => 133 | 47 => 107 | 48 => 108 | 49 => 134 | 50 => 135 | 15 => 85 | 57 => 137 | 28 => 101 | 29 => 102 | n => n, fun | 24 => 65 | 22 => 22 | 3 => 3 | 25 => 105 | 4 => 4 | 0 => 0 | 46 => 108 | 45 => 107 | 50 => 57 | 66 => 118 | 39 => 99 | 55 => 115 | 70 => 122 | 76 => 135 | 77 => 136 | 53 => 55 | 5 => 5 | 9 => 9 | n => n, fun | n => n⟩
theorem Tryz.sortSpan : Go.Proofs.SlLaysF0.n14 Tryz.prog Tryz.sortSpan_ren := {
  mixed := by kernel_rfl
  f14 := ⟨Tryz.f105.name, by decide, Tryz.func105.trans (congrArg some (by kernel_rfl))⟩
  f15 := Tryz.func85.trans (congrArg some (by kernel_rfl))
  f20 := ⟨Tryz.f120.name, by decide, Tryz.func120.trans (congrArg some (by kernel_rfl))⟩
  f21 := ⟨Tryz.f121.name, by decide, Tryz.func121.trans (congrArg some (by kernel_rfl))⟩
  f22 := ⟨Tryz.f122.name, by decide, Tryz.func122.trans (congrArg some (by kernel_rfl))⟩
  f23 := ⟨Tryz.f123.name, by decide, Tryz.func123.trans (congrArg some (by kernel_rfl))⟩
  f24 := ⟨Tryz.f124.name, by decide, Tryz.func124.trans (congrArg some (by kernel_rfl))⟩
  f25 := ⟨Tryz.f125.name, by decide, Tryz.func125.trans (congrArg some (by kernel_rfl))⟩
  f26 := ⟨Tryz.f126.name, by decide, Tryz.func126.trans (congrArg some (by kernel_rfl))⟩
  f27 := ⟨Tryz.f127.name, by decide, Tryz.func127.trans (congrArg some (by kernel_rfl))⟩
  f28 := Tryz.func101.trans (congrArg some (by kernel_rfl))
  f29 := Tryz.func102.trans (congrArg some (by kernel_rfl))
  f46 := ⟨Tryz.f133.name, by decide, Tryz.func133.trans (congrArg some (by kernel_rfl))⟩
  f47 := Tryz.func107.trans (congrArg some (by kernel_rfl))
  f48 := Tryz.func108.trans (congrArg some (by kernel_rfl))
  f49 := ⟨Tryz.f134.name, by decide, Tryz.func134.trans (congrArg some (by kernel_rfl))⟩
  f50 := ⟨Tryz.f135.name, by decide, Tryz.func135.trans (congrArg some (by kernel_rfl))⟩
  f57 := ⟨Tryz.f137.name, by decide, Tryz.func137.trans (congrArg some (by kernel_rfl))⟩
  t0 := Tryz.underlying0
  a0 := Tryz.isAgg0
  z0 := Tryz.sizeOf0
  v0 := Tryz.zeroValue0
  t3 := Tryz.underlying3
  a3 := Tryz.isAgg3
  z3 := Tryz.sizeOf3
  v3 := Tryz.zeroValue3
  t4 := Tryz.underlying4
  a4 := Tryz.isAgg4
  z4 := Tryz.sizeOf4
  v4 := Tryz.zeroValue4
  t5 := Tryz.underlying5
  a5 := Tryz.isAgg5
  z5 := Tryz.sizeOf5
  v5 := Tryz.zeroValue5
  t9 := Tryz.underlying9
  a9 := Tryz.isAgg9
  z9 := Tryz.sizeOf9
  v9 := Tryz.zeroValue9
  t22 := Tryz.underlying22
  a22 := Tryz.isAgg22
  z22 := Tryz.sizeOf22
  v22 := Tryz.zeroValue22
  t25 := Tryz.underlying105
  a25 := Tryz.isAgg105
  z25 := Tryz.sizeOf105
  v25 := Tryz.zeroValue105
  t39 := Tryz.underlying99
  a39 := Tryz.isAgg99
  z39 := Tryz.sizeOf99
  v39 := Tryz.zeroValue99
  t45 := Tryz.underlying107
  a45 := Tryz.isAgg107
  z45 := Tryz.sizeOf107
  v45 := Tryz.zeroValue107
  t46 := Tryz.underlying108
  a46 := Tryz.isAgg108
  z46 := Tryz.sizeOf108
  v46 := Tryz.zeroValue108
  t50 := Tryz.underlying57
  a50 := Tryz.isAgg57
  z50 := Tryz.sizeOf57
  v50 := Tryz.zeroValue57
  t53 := Tryz.underlying55
  a53 := Tryz.isAgg55
  z53 := Tryz.sizeOf55
  v53 := Tryz.zeroValue55
  t55 := Tryz.underlying115
  a55 := Tryz.isAgg115
  z55 := Tryz.sizeOf115
  v55 := Tryz.zeroValue115
  t66 := Tryz.underlying118
  a66 := Tryz.isAgg118
  z66 := Tryz.sizeOf118
  v66 := Tryz.zeroValue118
  t70 := Tryz.underlying122
  a70 := Tryz.isAgg122
  z70 := Tryz.sizeOf122
  v70 := Tryz.zeroValue122
  t76 := Tryz.underlying135
  a76 := Tryz.isAgg135
  z76 := Tryz.sizeOf135
  v76 := Tryz.zeroValue135
  t77 := Tryz.underlying136
  a77 := Tryz.isAgg136
  z77 := Tryz.sizeOf136
  v77 := Tryz.zeroValue136 }
def Tryz.bitsLen_ren : Go.Shelf.Ren := ⟨fun | 125 => 85 | 128 => 101 | 129 => 102 | n => n, fun | 46 => 99 | 3 => 3 | 51 => 55 | 53 => 115 | 4 => 4 | 5 => 5 | 9 => 9 | n => n, fun | n => n⟩
theorem Tryz.bitsLen : Go.Proofs.Lays.n125 Tryz.prog Tryz.bitsLen_ren := {
  mixed := by kernel_rfl
  f125 := Tryz.func85.trans (congrArg some (by kernel_rfl))
  f128 := Tryz.func101.trans (congrArg some (by kernel_rfl))
  f129 := Tryz.func102.trans (congrArg some (by kernel_rfl))
  t3 := Tryz.underlying3
  a3 := Tryz.isAgg3
  z3 := Tryz.sizeOf3
  v3 := Tryz.zeroValue3
  t4 := Tryz.underlying4
  a4 := Tryz.isAgg4
  z4 := Tryz.sizeOf4
  v4 := Tryz.zeroValue4
  t5 := Tryz.underlying5
  a5 := Tryz.isAgg5
  z5 := Tryz.sizeOf5
  v5 := Tryz.zeroValue5
  t9 := Tryz.underlying9
  a9 := Tryz.isAgg9
  z9 := Tryz.sizeOf9
  v9 := Tryz.zeroValue9
  t46 := Tryz.underlying99
  a46 := Tryz.isAgg99
  z46 := Tryz.sizeOf99
  v46 := Tryz.zeroValue99
  t51 := Tryz.underlying55
  a51 := Tryz.isAgg55
  z51 := Tryz.sizeOf55
  v51 := Tryz.zeroValue55
  t53 := Tryz.underlying115
  a53 := Tryz.isAgg115
  z53 := Tryz.sizeOf115
  v53 := Tryz.zeroValue115 }
def Tryz.strCmp_ren : Go.Shelf.Ren := ⟨fun | 106 => 67 | 213 => 86 | 265 => 103 | n => n, fun | 9 => 9 | 3 => 3 | n => n, fun | n => n⟩
theorem Tryz.strCmp : Go.Proofs.Lays.n106 Tryz.prog Tryz.strCmp_ren := {
  mixed := by kernel_rfl
  f106 := Tryz.func67.trans (congrArg some (by kernel_rfl))
  f213 := Tryz.func86.trans (congrArg some (by kernel_rfl))
  f265 := Tryz.func103.trans (congrArg some (by kernel_rfl))
  t3 := Tryz.underlying3
  a3 := Tryz.isAgg3
  z3 := Tryz.sizeOf3
  v3 := Tryz.zeroValue3
  t9 := Tryz.underlying9
  a9 := Tryz.isAgg9
  z9 := Tryz.sizeOf9
  v9 := Tryz.zeroValue9 }
end Go.Proofs
end

section
/- The engine: a function that turns a row in place (a sort by the library's contract). -/
namespace Go.VC
open Go Go.Sort Go.Proofs

inductive All2 {α β : Type} (R : α → β → Prop) : List α → List β → Prop
  | nil : All2 R [] []
  | cons {a b x y} (h : R a b) (t : All2 R x y) : All2 R (a :: x) (b :: y)
theorem All2.length {α β : Type} {R : α → β → Prop} {x : List α} {y : List β} (h : All2 R x y) : x.length = y.length := by
  induction h with
  | nil => rfl
  | cons _ _ ih => simp [ih]
theorem All2.get {α β : Type} {R : α → β → Prop} {x : List α} {y : List β} (h : All2 R x y) (i : Nat) (h1 : i < x.length) (h2 : i < y.length) : R x[i] y[i] := by
  induction h generalizing i with
  | nil => simp at h1
  | cons h t ih =>
    cases i with
    | zero => exact h
    | succ i => exact ih i (by simpa using h1) (by simpa using h2)
theorem All2.of_get {α β : Type} {R : α → β → Prop} : ∀ {x : List α} {y : List β}, x.length = y.length → (∀ i (h1 : i < x.length) (h2 : i < y.length), R x[i] y[i]) → All2 R x y
  | [], [], _, _ => .nil
  | a :: x, b :: y, hl, h => .cons (h 0 (by simp) (by simp)) (All2.of_get (by simpa using hl) fun i h1 h2 => h (i+1) (by simpa using h1) (by simpa using h2))
  | [], _ :: _, hl, _ => by simp at hl
  | _ :: _, [], hl, _ => by simp at hl
theorem All2.perm {α β : Type} {R : α → β → Prop} {x x' : List α} (hp : x'.Perm x) : ∀ {y : List β}, All2 R x y → ∃ y', y'.Perm y ∧ All2 R x' y' := by
  induction hp with
  | nil => intro y h; cases h; exact ⟨[], .nil, .nil⟩
  | cons a _ ih =>
    intro y h
    cases h with
    | cons h t =>
      obtain ⟨y', h1, h2⟩ := ih t
      exact ⟨_ :: y', h1.cons _, .cons h h2⟩
  | swap a b l =>
    intro y h
    cases h with
    | cons h t =>
      cases t with
      | cons h' t => exact ⟨_ :: _ :: _, .swap _ _ _, .cons h' (.cons h t)⟩
  | trans _ _ ih1 ih2 =>
    intro y h
    obtain ⟨y1, h1, h2⟩ := ih2 h
    obtain ⟨y2, h3, h4⟩ := ih1 h2
    exact ⟨y2, h3.trans h1, h4⟩

/-- raw cells and a row of data -/
structure RelV (tt : TypeId → Option TI) (Pp : Per) (e : TypeId) (us : List Value) (row : List D) : Prop where
  l1 : us.length = (cksOf tt e).length
  l2 : row.length = (cksOf tt e).length
  rd : ∀ (j : Nat) d ck, row[j]? = some d → (cksOf tt e)[j]? = some ck → ∃ v, us[j]? = some v ∧ RD tt Pp ck v d

section
variable {α : Type} [Inhabited α] {P : Program} {tt : TypeId → Option TI} {f : FuncId} {e : TypeId}

theorem ex_clos {g : FuncId} : ∀ E Pp vs, VRL tt E Pp vs [.clos g []] → vs = [.func (.func g) #[] #[]] := by
  intro E Pp vs h
  cases h with
  | cons v _ vs _ h1 h2 =>
  cases h2
  cases h1 with
  | clos _ cs _ hcs =>
  cases hcs
  rfl
theorem ex_nil : ∀ E Pp vs, VRL tt E Pp vs [] → vs = [] := by
  intro E Pp vs h
  cases h
  rfl

theorem flatK_one (enc : α → Value) (d : Array α) : flatK (fun x => [enc x]) 1 d = d.map enc := by
  apply Array.ext (by simp)
  intro i h1 h2
  have hi : i < d.size := by simpa using h2
  simp only [flatK, Array.getElem_map, Array.getElem_range, Nat.div_one, Nat.mod_one]
  rw [getElem!_pos d i hi]
  rfl
theorem holds_one {enc : α → Value} {w : World} {blk off : Nat} {d : Array α} (h : HoldsK (fun x => [enc x]) 1 w blk off d) : Holds enc w blk off d := by
  intro j hj
  have := h j (by rw [size_flatK]; omega)
  rw [flatK_one] at this
  rw [getElem!_pos (d.map enc) j (by simpa using hj)] at this
  rw [getElem!_pos d j hj]
  simpa using this
theorem putRow_one (enc : α → Value) (w : World) (blk off : Nat) (d : Array α) : putRow enc w blk off d = putRow id w blk off (flatK (fun x => [enc x]) 1 d) := by
  rw [flatK_one]
  unfold putRow
  congr 1
  funext c
  unfold putCells
  congr 1
  funext k x
  simp only [Array.size_map, id]
  split
  · rename_i h
    rw [getElem!_pos d (k - off) (by omega), getElem!_pos (d.map enc) (k - off) (by simp; omega)]
    simp
  · rfl

theorem divmod_lt {t n k : Nat} (h : t < n * k) : t / k < n ∧ t % k < k ∧ t = t / k * k + t % k := by
  have hk : 0 < k := by
    rcases Nat.eq_zero_or_pos k with h' | h'
    · subst h'; simp at h
    · exact h'
  exact ⟨(Nat.div_lt_iff_lt_mul hk).2 h, Nat.mod_lt _ hk, by rw [Nat.mul_comm]; exact (Nat.div_add_mod t k).symm⟩

/-- a sort: the row holds its rows in another order, no later one less than an earlier one -/
theorem sort_fc (enc : α → List Value) (cf : α → α → Int) (ltD : List D → List D → Bool) (ex : List PV) (ev : List Value) (hex : ∀ E Pp vs, VRL tt E Pp vs ex → vs = ev)
    (hk : ∀ x, (enc x).length = (cksOf tt e).length)
    (hS : ∀ (blk off cap : Nat) (d : Array α) (w : World), HoldsK enc (cksOf tt e).length w blk off d → blk < w.heap.size → d.size < 4611686018427387904 →
      Calls P f ⟨.slice (some ⟨blk, off, none⟩) d.size cap :: ev⟩ w fun e' w' => e' = .returned (.tuple #[]) ∧ ∃ d' n os, PermIn 0 d.size d d' ∧ SortedIn (ltOf cf) 0 d.size d' ∧ w' = sortWorldK enc (cksOf tt e).length w blk off n d' os)
    (hN : ∀ (p : Option Addr) (cap : Nat) (w : World), Calls P f ⟨.slice p 0 cap :: ev⟩ w fun e' w' => e' = .returned (.tuple #[]) ∧ w' = w)
    (hE : ∀ args w, (callFunc f args).run P w = .ok (.enter f args) w)
    (rows : List (List D)) (hn : rows.length < 4611686018427387904)
    (hα : ∀ Pp us row, row ∈ rows → RelV tt Pp e us row → ∃ x : α, enc x = us)
    (hlt : ∀ Pp x y rx ry, RelV tt Pp e (enc x) rx → RelV tt Pp e (enc y) ry → ltOf cf x y = ltD rx ry)
    {K : PV → List Ob → Prop} (h : ∀ rows', rows'.Perm rows → (∀ i j (hi : i < rows'.length) (hj : j < rows'.length), i < j → ltD rows'[j] rows'[i] = false) → K (.tup []) [.row e (.list rows') true]) :
    FC P tt f [.row e (.list rows) true] (.row e 0 :: ex) K := by
  intro E Pp w vals hw hv
  cases hv with
  | cons v0 _ vs0 _ hv0 hv1 =>
  have hvs0 := hex _ _ _ hv1
  subst hvs0
  have hEl := hw.len
  obtain ⟨ri, hri, hor⟩ := hw.ob 0 _ rfl rfl
  refine .inl ⟨hE _ _, ?_⟩
  have none_case : ∀ p cap, v0 = .slice p 0 cap → rows = [] → Calls P f ⟨v0 :: vs0⟩ w (FCPost tt E Pp [.row e (.list rows) true] w K) := by
    rintro p cap rfl rfl
    refine (hN p cap w).mono ?_
    rintro e' w' ⟨rfl, rfl⟩
    refine ⟨_, E, Pp, [.row e (.list []) true], _, rfl, fun _ _ h => h, fun _ _ h => h, hw, .tup [] [] .nil, h [] (List.Perm.refl _) (fun i j hi => by simp at hi), Fr.refl _ _, fun _ _ h => .inl h, ?_⟩
    intro i o ri b ho hl hE' hb
    exact .inr ⟨i, o, ri, ho, hl, hE', hb⟩
  cases hv0 with
  | row0 _ _ hr =>
    rw [hri] at hr; cases hr
    simp only [OR, D.list.injEq] at hor
    exact none_case _ _ rfl hor
  | row _ _ gb o len cap hr =>
    rw [hri] at hr; cases hr
    simp only [OR, D.list.injEq] at hor
    obtain ⟨vs, T, rows2, hheap, hrr, hlen, hcap, hfit, hrow, hno, _⟩ := hor
    subst hrr
    obtain ⟨k, hkd⟩ : ∃ k, k = (cksOf tt e).length := ⟨_, rfl⟩
    rcases Nat.eq_zero_or_pos len with h0 | hpos
    · subst h0
      exact none_case _ _ rfl (List.eq_nil_of_length_eq_zero hlen)
    have hgb : gb < w.heap.size := by
      rcases Nat.lt_or_ge gb w.heap.size with h' | h'
      · exact h'
      · rw [Array.getElem?_eq_none h'] at hheap; simp at hheap
    have hbound : o + len * k ≤ vs.length := by
      have := Nat.mul_le_mul_right k hcap
      rw [← hkd] at hfit; omega
    -- the rows as they lie
    have hus : ∀ i (hi : i < len), RelV tt Pp e ((vs.drop (o + i * k)).take k) (rows[i]'(by omega)) := by
      intro i hi
      obtain ⟨h1, h2⟩ := hrow i rows[i] (by simp [hlen, hi])
      have hin : (i + 1) * k ≤ len * k := Nat.mul_le_mul_right k hi
      rw [Nat.add_mul, Nat.one_mul] at hin
      refine ⟨by rw [List.length_take, List.length_drop, ← hkd]; omega, h1, ?_⟩
      intro j dd ck hj hck
      obtain ⟨v, hv, hrd⟩ := h2 j dd ck hj hck
      have hjk : j < k := by rw [hkd]; exact (List.getElem?_eq_some_iff.1 hck).1
      refine ⟨v, ?_, hrd⟩
      rw [List.getElem?_take_of_lt hjk, List.getElem?_drop]
      rw [← hkd] at hv; exact hv
    have hx : ∀ i (hi : i < len), ∃ x : α, enc x = (vs.drop (o + i * k)).take k := fun i hi => hα Pp _ _ (List.getElem_mem _) (hus i hi)
    obtain ⟨xs, hxl, hxs⟩ : ∃ xs : List α, xs.length = len ∧ ∀ i (hi : i < xs.length), enc xs[i] = (vs.drop (o + i * k)).take k := by
      refine ⟨(List.range len).map fun i => if hi : i < len then Classical.choose (hx i hi) else default, by simp, ?_⟩
      intro i hi
      have hi' : i < len := by simpa using hi
      simp only [List.getElem_map, List.getElem_range, hi', dif_pos]
      exact Classical.choose_spec (hx i hi')
    have hsz : xs.toArray.size = len := by simp [hxl]
    have hR : All2 (fun x r => RelV tt Pp e (enc x) r) xs rows := All2.of_get (by omega) fun i h1 h2 => by
      rw [hxs i h1]; exact hus i (by omega)
    have flat : ∀ (d : Array α), d.size = len → ∀ t, t < len * k → ∃ (x : α) (hq : t / k < d.size), x = d[t / k] ∧ (flatK enc k d)[t]! = (enc x)[t % k]! := by
      intro d hd t ht
      obtain ⟨h1, h2, h3⟩ := divmod_lt ht
      refine ⟨_, by omega, rfl, ?_⟩
      rw [get_flatK enc k d t (by rw [hd]; exact ht), getElem!_pos d (t / k) (by omega)]
    have hH : HoldsK enc k w gb o xs.toArray := by
      intro t ht
      rw [size_flatK, hsz] at ht
      obtain ⟨h1, h2, h3⟩ := divmod_lt ht
      obtain ⟨x, hq, hx1, hx2⟩ := flat xs.toArray hsz t ht
      refine ⟨?_, ?_⟩
      · simp only [World.cell?, hheap, Option.isSome_none, Bool.false_eq_true, if_false, id]
        rw [hx2, hx1]
        have hlt2 : t / k < xs.length := by omega
        have e1 := hxs (t / k) hlt2
        simp only [List.getElem_toArray]
        rw [e1]
        have hl2 : ((vs.drop (o + t / k * k)).take k).length = k := by rw [← e1, hk, hkd]
        rw [getElem!_pos _ (t % k) (by omega)]
        rw [List.getElem_take, List.getElem_drop]
        have hlt3 : o + t < vs.length := by omega
        have : (⟨vs⟩ : Array Value)[o + t]? = some vs[o + t] := by simp [hlt3]
        rw [this]
        congr 2
        omega
      · simp only [World.frozen?, hheap]
        simp
    rw [← hkd] at hS
    have hC := hS gb o cap xs.toArray w hH hgb (by rw [hsz, ← hlen]; exact hn)
    rw [hsz] at hC
    refine hC.mono ?_
    rintro e' w' ⟨rfl, d', n, os, hp, hs, rfl⟩
    have hd' : d'.size = len := by rw [hp.1, hsz]
    have hperm : d'.toList.Perm xs := by
      have := hp.2.2
      rw [Array.extract_eq_self_of_le (by omega), Array.extract_eq_self_of_le (by omega)] at this
      simpa using this
    obtain ⟨rows', hp2, hR2⟩ := All2.perm hperm hR
    have hrl : rows'.length = len := by rw [hp2.length_eq, hlen]
    -- the block behind the sort
    obtain ⟨W, hW⟩ : ∃ W, W = sortWorldK enc k w gb o n d' os := ⟨_, rfl⟩
    rw [← hW]
    have hblk : ∀ b, b < w.heap.size → W.heap[b]? = (w.heap[b]?).map fun x => if b = gb then onCells (putCells id o (flatK enc k d')) x else x := by
      intro b hb
      rw [hW]
      simp only [sortWorldK, putRowK, putRow, grow, mapBlock, Sort.ahead]
      rw [Array.getElem?_append_left (by simp; exact hb), Array.getElem?_modify]
      by_cases hbg : gb = b
      · subst hbg; simp
      · rw [if_neg hbg]
        cases w.heap[b]? with
        | none => rfl
        | some x => simp [Ne.symm hbg]
    obtain ⟨vs', hvs'⟩ : ∃ vs', vs' = (putCells id o (flatK enc k d') ⟨vs⟩).toList := ⟨_, rfl⟩
    have hblk1 : W.heap[gb]? = some (.cells ⟨vs'⟩ T (0, 0)) := by
      rw [hblk gb hgb, hheap]; simp [onCells, hvs']
    have hvl : vs'.length = vs.length := by rw [hvs']; simp [putCells]
    have hvget : ∀ t, t < len * k → vs'[o + t]? = some (flatK enc k d')[t]! := by
      intro t ht
      rw [hvs']
      simp only [putCells, Array.toList_mapIdx]
      rw [List.getElem?_mapIdx]
      have hlt3 : o + t < vs.length := by omega
      simp only [List.getElem?_eq_getElem hlt3, Option.map_some]
      rw [size_flatK, hd', if_pos (by omega)]
      simp
    have hsize : w.heap.size ≤ W.heap.size := by
      rw [hW]; simp [sortWorldK, putRowK, putRow, grow, mapBlock, Sort.ahead]
    have hother : ∀ b, b < w.heap.size → b ≠ gb → W.heap[b]? = w.heap[b]? := by
      intro b hb hne
      rw [hblk b hb]
      cases w.heap[b]? with
      | none => rfl
      | some x => simp [hne]
    have hrow' : RowAt tt Pp e vs' o rows' := by
      intro i row hi
      have hil : i < rows'.length := (List.getElem?_eq_some_iff.1 hi).1
      have hrow_eq : row = rows'[i] := ((List.getElem?_eq_some_iff.1 hi).2).symm
      have hrel := hR2.get i (by simp; omega) hil
      rw [← hrow_eq] at hrel
      refine ⟨hrel.l2, ?_⟩
      intro j dd ck hj hck
      obtain ⟨v, hv, hrd⟩ := hrel.rd j dd ck hj hck
      refine ⟨v, ?_, hrd⟩
      have hjk : j < k := by rw [hkd]; exact (List.getElem?_eq_some_iff.1 hck).1
      have hin : (i + 1) * k ≤ len * k := Nat.mul_le_mul_right k (by omega)
      rw [Nat.add_mul, Nat.one_mul] at hin
      rw [← hkd, Nat.add_assoc, hvget (i * k + j) (by omega)]
      obtain ⟨x, hq, hx1, hx2⟩ := flat d' hd' (i * k + j) (by omega)
      have hdiv : (i * k + j) / k = i := by
        rw [Nat.mul_comm, Nat.mul_add_div (by omega), Nat.div_eq_of_lt hjk, Nat.add_zero]
      have hmod : (i * k + j) % k = j := by
        rw [Nat.mul_comm, Nat.mul_add_mod, Nat.mod_eq_of_lt hjk]
      rw [hx2, hmod]
      have hxi : x = d'.toList[i]'(by simp; omega) := by
        rw [hx1]; simp [hdiv]
      rw [hxi]
      have hjl : j < (enc (d'.toList[i]'(by simp; omega))).length := by rw [hk, ← hkd]; exact hjk
      rw [getElem!_pos _ j hjl]
      rw [List.getElem?_eq_getElem hjl] at hv
      exact hv
    have hsorted : ∀ i j (hi : i < rows'.length) (hj : j < rows'.length), i < j → ltD rows'[j] rows'[i] = false := by
      intro i j hi hj hij
      have := hs i j (Nat.zero_le _) hij (by omega)
      rw [getElem!_pos d' i (by omega), getElem!_pos d' j (by omega)] at this
      rw [← hlt Pp d'[j] d'[i] _ _ (by have := hR2.get j (by simp; omega) hj; simpa using this) (by have := hR2.get i (by simp; omega) hi; simpa using this)]
      exact this
    have hno := hno trivial
    refine ⟨_, E, Pp, [.row e (.list rows') true], _, rfl, fun _ _ h => h, fun _ _ h => h, ?_, .tup [] [] .nil, h rows' hp2 hsorted, ?_, fun _ _ h => .inl h, ?_⟩
    · refine ⟨by rw [hEl]; rfl, ?_, ?_, ?_⟩
      · intro ad v hpv
        have hne := hno ad v hpv
        have hc := hw.pi ad v hpv
        have hlt4 : ad.block < w.heap.size := by
          rcases Nat.lt_or_ge ad.block w.heap.size with h' | h'
          · exact h'
          · simp only [World.cell?, Array.getElem?_eq_none h'] at hc; simp at hc
        simp only [World.cell?] at hc ⊢
        rw [hother _ hlt4 hne]; exact hc
      · intro i ob ho hl
        cases i with
        | succ i => simp at ho
        | zero =>
          simp at ho; subst ho
          refine ⟨_, hri, ?_⟩
          simp only [OR]
          refine ⟨vs', T, rows', hblk1, rfl, hrl, hcap, by rw [hvl]; exact hfit, hrow', fun _ => hno, by simp⟩
      · intro i j oi oj ri rj b hi hj _ _ _ _ _ _
        cases i <;> cases j <;> simp at hi hj ⊢
    · refine ⟨?_, ?_, ?_, hsize, ?_⟩
      · rw [hW]; rfl
      · rw [hW]; rfl
      · rw [hW]; rfl
      · intro b hb hown
        refine hother b hb fun hbg => hown ?_
        subst hbg
        exact ⟨0, _, _, rfl, rfl, hri, rfl⟩
    · intro i ob ri b ho hl hE' hb
      refine .inr ?_
      cases i with
      | succ i => simp at ho
      | zero =>
        rw [hri] at hE'; cases hE'
        exact ⟨0, _, _, rfl, rfl, hri, hb⟩

end
end Go.VC
end

section
/- Typed data of the seat, and the operations on it. -/
namespace Go.VC

section
variable {a b : Int} {k : IntKind} {x y : List UInt8} {p q : Bool} {d e : D}
theorem Std_lt : Std.lt a b = decide (a < b) := rfl
theorem Std_le : Std.le a b = decide (a ≤ b) := rfl
theorem Std_eq : Std.eq a b = (a == b) := rfl
theorem Std_add : Std.add a b = a + b := rfl
theorem Std_sub : Std.sub a b = a - b := rfl
theorem Std_mul : Std.mul a b = a * b := rfl
theorem Std_not : Std.not p = !p := rfl
theorem Std_beq : Std.beq p q = (p == q) := rfl
theorem Std_ite {c : Bool} : Std.ite c p q = (bif c then p else q) := rfl
theorem Std_seq : Std.seq x y = (x == y) := rfl
theorem Std_slt : Std.slt x y = Op.bytesLess x y := rfl
theorem Std_slen : Std.slen x = (x.length : Int) := rfl
theorem Std_max : Std.max a b = if b > a then b else a := rfl
theorem Std_min : Std.min a b = if b < a then b else a := rfl
theorem Std_idx : Std.idx a b = (0 ≤ a ∧ a < b) := rfl
theorem Std_bnd : Std.bnd a b = (0 ≤ a ∧ a ≤ b) := rfl
theorem Std_same : Std.same a b = (a = b) := rfl
theorem Std_neg1 : bNot false = true := rfl
theorem Std_neg2 : bNot true = false := rfl
theorem Std_inr64 : Std.inr .i64 a = (-9223372036854775808 ≤ a ∧ a ≤ 9223372036854775807) := rfl
theorem Std_int {n : Int} : Std.asInt (.int n) = n := rfl
theorem Std_bool : Std.asBool (.bool p) = p := rfl
theorem Std_str : Std.asStr (.str x) = x := rfl
end

/-- a list of typed rows -/
def encL {α : Type} (f : α → List D) (l : List α) : D := .list (l.map f)
theorem Std_len {α : Type} {f : α → List D} {l : List α} : Std.len (encL f l) = (l.length : Int) := by simp [Std, std, encL, rowsD]
theorem Std_cell {α : Type} {f : α → List D} {l : List α} {i : Nat} {j : Nat} (h : i < l.length) : Std.cell (encL f l) (Int.ofNat i) j = (f l[i]).getD j .nil := by
  simp [Std, std, encL, rowsD, List.getD, h]
theorem Std_cell' {α : Type} {f : α → List D} {l : List α} {i : Nat} {j : Nat} (h : i < l.length) : Std.cell (encL f l) (i : Int) j = (f l[i]).getD j .nil := Std_cell h
theorem Std_app {α : Type} {f : α → List D} {l k : List α} : Std.app (encL f l) (encL f k) = encL f (l ++ k) := by simp [Std, std, encL, rowsD]
theorem Std_lit {α : Type} {f : α → List D} {l : List α} : Std.lit (l.map f) = encL f l := rfl

def encX (x : (Int × Int)) : List D := [.int x.1, .int x.2]
structure Term where
  path : List UInt8
  absent : Bool
  set : List (Int × Int)
  deriving DecidableEq, BEq
def encT (t : Term) : List D := [.str t.path, .bool t.absent, encL encX t.set]
end Go.VC
namespace Go.VC
theorem leaf_idx {α : Type} {f : α → List D} {l : List α} {i : Nat} (h : i < l.length) : Std.idx (Int.ofNat i) (Std.len (encL f l)) :=
  ⟨Int.natCast_nonneg _, by rw [Std_len]; exact Int.ofNat_lt.2 h⟩
theorem leaf_inc {i n : Nat} (h : i < n) (hn : n < 4294967297) : Std.inr .i64 (Std.add (Int.ofNat i) 1) := by
  rw [Std_inr64, Std_add]; simp only [Int.ofNat_eq_natCast]; omega
theorem lt_of_lt {α : Type} {f : α → List D} {l : List α} {i : Nat} (h : Std.lt (Int.ofNat i) (Std.len (encL f l)) = true) : i < l.length := by
  rw [Std_lt, Std_len] at h; have := of_decide_eq_true h; simp only [Int.ofNat_eq_natCast] at this; omega
theorem ge_of_lt {α : Type} {f : α → List D} {l : List α} {i : Nat} (h : Std.lt (Int.ofNat i) (Std.len (encL f l)) = false) : l.length ≤ i := by
  rw [Std_lt, Std_len] at h; have := of_decide_eq_false h; simp only [Int.ofNat_eq_natCast] at this; omega
theorem lit_lt {k : Int} {n : Int} {b : Bool} (h : Std.lt k n = b) : decide (k < n) = b := h
theorem all_take {α : Type} {p : α → Bool} {l : List α} {i : Nat} (h : i < l.length) (ha : (l.take i).all p = true) (hp : p l[i] = true) : (l.take (i+1)).all p = true := by
  rw [List.take_succ_eq_append_getElem h, List.all_append, ha]; simp [hp]
theorem all_false {α : Type} {p : α → Bool} {l : List α} {i : Nat} (h : i < l.length) (hp : p l[i] = false) : l.all p = false := by
  rw [List.all_eq_false]; exact ⟨l[i], List.getElem_mem h, by simp [hp]⟩
end Go.VC
end

section
/- Sets of places: canonical lists of spans, and what the functions on them return. -/
namespace Go.VC

def Places : Int := 1000000
/-- a place is in a list of spans -/
def pl (s : List (Int × Int)) (p : Int) : Prop := 0 ≤ p ∧ p < 1000000 ∧ ∃ x ∈ s, x.1 ≤ p ∧ p < x.2
/-- a canonical list of spans from a place on -/
def CanF : Int → List (Int × Int) → Prop
  | _, [] => True
  | a, x :: c => a < x.1 ∧ x.1 < x.2 ∧ x.2 ≤ 1000000 ∧ CanF x.2 c
def Can (c : List (Int × Int)) : Prop := CanF (-1) c

theorem CanF.weaken {a b : Int} {c : List (Int × Int)} (h : CanF a c) (hab : b ≤ a) : CanF b c := by
  cases c with
  | nil => trivial
  | cons x c => exact ⟨by have := h.1; omega, h.2⟩
theorem CanF.mem {a : Int} {c : List (Int × Int)} (h : CanF a c) {x : (Int × Int)} (hx : x ∈ c) : a < x.1 ∧ x.1 < x.2 ∧ x.2 ≤ 1000000 := by
  induction c generalizing a with
  | nil => simp at hx
  | cons y c ih =>
    rcases List.mem_cons.1 hx with rfl | hx
    · exact ⟨h.1, h.2.1, h.2.2.1⟩
    · obtain ⟨h1, h2, h3⟩ := ih h.2.2.2 hx
      have := h.1; have := h.2.1
      exact ⟨by omega, h2, h3⟩

def mem' (c : List (Int × Int)) (p : Int) : Prop := ∃ x ∈ c, x.1 ≤ p ∧ p < x.2
theorem mem'_nil {p : Int} : mem' [] p ↔ False := by simp [mem']
theorem mem'_cons {x : (Int × Int)} {c : List (Int × Int)} {p : Int} : mem' (x :: c) p ↔ (x.1 ≤ p ∧ p < x.2) ∨ mem' c p := by simp [mem']
theorem mem'_append {c d : List (Int × Int)} {p : Int} : mem' (c ++ d) p ↔ mem' c p ∨ mem' d p := by simp [mem', or_and_right, exists_or]
theorem pl_iff {s : List (Int × Int)} {p : Int} : pl s p ↔ 0 ≤ p ∧ p < 1000000 ∧ mem' s p := Iff.rfl
theorem Can.pl_mem {c : List (Int × Int)} (h : Can c) {p : Int} : pl c p ↔ mem' c p := by
  refine ⟨fun h => h.2.2, fun ⟨x, hx, h1, h2⟩ => ?_⟩
  obtain ⟨a, b, d⟩ := CanF.mem h hx
  exact ⟨by omega, by omega, x, hx, h1, h2⟩
theorem CanF.gt {a : Int} {c : List (Int × Int)} (h : CanF a c) {p : Int} (hp : mem' c p) : a < p := by
  obtain ⟨x, hx, h1, _⟩ := hp
  have := (h.mem hx).1
  omega

theorem CanF.uniq : ∀ {c d : List (Int × Int)} {a b : Int}, CanF a c → CanF b d → (∀ p, mem' c p ↔ mem' d p) → c = d
  | [], [], _, _, _, _, _ => rfl
  | [], y :: d, _, _, _, hd, h => by
    have := (h y.1).2 (mem'_cons.2 (.inl ⟨Int.le_refl _, hd.2.1⟩))
    exact (mem'_nil.1 this).elim
  | x :: c, [], _, _, hc, _, h => by
    have := (h x.1).1 (mem'_cons.2 (.inl ⟨Int.le_refl _, hc.2.1⟩))
    exact (mem'_nil.1 this).elim
  | x :: c, y :: d, a, b, hc, hd, h => by
    have hx := hc.2.1
    have hy := hd.2.1
    have c2 : ∀ p, mem' c p → x.2 < p := fun p hp => hc.2.2.2.gt hp
    have d2 : ∀ p, mem' d p → y.2 < p := fun p hp => hd.2.2.2.gt hp
    have e1 : x.1 = y.1 := by
      have h1 := (h x.1).1 (mem'_cons.2 (.inl ⟨Int.le_refl _, hx⟩))
      have h2 := (h y.1).2 (mem'_cons.2 (.inl ⟨Int.le_refl _, hy⟩))
      rcases mem'_cons.1 h1 with h1 | h1 <;> rcases mem'_cons.1 h2 with h2 | h2
      · omega
      · have := c2 _ h2; omega
      · have := d2 _ h1; omega
      · have := c2 _ h2; have := d2 _ h1; omega
    have e2 : x.2 = y.2 := by
      have n1 : ¬ mem' (x :: c) x.2 := fun hm => by
        rcases mem'_cons.1 hm with hm | hm
        · omega
        · have := c2 _ hm; omega
      have n2 : ¬ mem' (y :: d) y.2 := fun hm => by
        rcases mem'_cons.1 hm with hm | hm
        · omega
        · have := d2 _ hm; omega
      rw [h] at n1
      rw [← h] at n2
      have n1 : ¬ (y.1 ≤ x.2 ∧ x.2 < y.2) := fun hm => n1 (mem'_cons.2 (.inl hm))
      have n2 : ¬ (x.1 ≤ y.2 ∧ y.2 < x.2) := fun hm => n2 (mem'_cons.2 (.inl hm))
      omega
    have exy : x = y := Prod.ext e1 e2
    subst exy
    rw [CanF.uniq hc.2.2.2 hd.2.2.2 (fun p => by
      have := h p
      rw [mem'_cons, mem'_cons] at this
      constructor
      · intro hp
        rcases this.1 (.inr hp) with h' | h'
        · have := c2 _ hp; omega
        · exact h'
      · intro hp
        rcases this.2 (.inr hp) with h' | h'
        · have := d2 _ hp; omega
        · exact h')]
theorem Can.uniq {c d : List (Int × Int)} (hc : Can c) (hd : Can d) (h : ∀ p, pl c p ↔ pl d p) : c = d :=
  CanF.uniq hc hd fun p => by rw [← hc.pl_mem, ← hd.pl_mem]; exact h p

theorem CanF.length {a : Int} {c : List (Int × Int)} (h : CanF a c) (ha : a ≤ 1000000) : (c.length : Int) ≤ 1000000 - a := by
  induction c generalizing a with
  | nil => simp; omega
  | cons x c ih =>
    have := ih h.2.2.2 h.2.2.1
    have := h.1; have := h.2.1
    simp only [List.length_cons]
    omega
theorem Can.length {c : List (Int × Int)} (h : Can c) : c.length ≤ 1000001 := by
  have := CanF.length h (by omega)
  omega

/-! what the functions return -/
def clip (x : (Int × Int)) : (Int × Int) := (max 0 x.1, min 1000000 x.2)
def insX (x : (Int × Int)) : List (Int × Int) → List (Int × Int)
  | [] => [x]
  | y :: l => if x.1 < y.1 then x :: y :: l else y :: insX x l
/-- clipped, sorted -/
def sorted : List (Int × Int) → List (Int × Int) → List (Int × Int)
  | acc, [] => acc
  | acc, x :: l => if (clip x).1 < (clip x).2 then sorted (insX (clip x) acc) l else sorted acc l
def mrg : (Int × Int) → List (Int × Int) → List (Int × Int)
  | x, [] => [x]
  | x, y :: l => if y.1 ≤ x.2 then mrg (x.1, max x.2 y.2) l else x :: mrg y l
def mrgL : List (Int × Int) → List (Int × Int)
  | [] => []
  | x :: l => mrg x l
/-- the canonical form of a set -/
def canon (s : List (Int × Int)) : List (Int × Int) := mrgL (sorted [] s)
def compF : Int → List (Int × Int) → List (Int × Int)
  | a, [] => if a < 1000000 then [(a, 1000000)] else []
  | a, x :: c => if a < x.1 then (a, x.1) :: compF x.2 c else compF x.2 c
def compl (s : List (Int × Int)) : List (Int × Int) := compF 0 (canon s)
def union (l : List (List (Int × Int))) : List (Int × Int) := canon l.flatten
def inter (l : List (List (Int × Int))) : List (Int × Int) := compl (union (l.map compl))
def minus (a b : List (Int × Int)) : List (Int × Int) := inter [a, compl b]
def subset (a b : List (Int × Int)) : Bool := (minus a b).isEmpty

/-- sorted by their first places, not empty, within the places -/
inductive Srt : List (Int × Int) → Prop
  | nil : Srt []
  | cons (x l) (h0 : 0 ≤ x.1) (h1 : x.1 < x.2) (h2 : x.2 ≤ 1000000) (h3 : ∀ y ∈ l, x.1 ≤ y.1) (h : Srt l) : Srt (x :: l)

theorem mem_insX {x y : (Int × Int)} {l : List (Int × Int)} : y ∈ insX x l ↔ y = x ∨ y ∈ l := by
  induction l with
  | nil => simp [insX]
  | cons z l ih =>
    simp only [insX]
    split
    · simp
    · simp only [List.mem_cons, ih]
      constructor
      · rintro (h | h | h) <;> simp [h]
      · rintro (h | h | h) <;> simp [h]
theorem Srt.insX {x : (Int × Int)} {l : List (Int × Int)} (h : Srt l) (h0 : 0 ≤ x.1) (h1 : x.1 < x.2) (h2 : x.2 ≤ 1000000) : Srt (Go.VC.insX x l) := by
  induction h with
  | nil => exact .cons x [] h0 h1 h2 (by simp) .nil
  | cons y l a b c d e ih =>
    simp only [Go.VC.insX]
    split
    · exact .cons x _ h0 h1 h2 (fun z hz => by rcases List.mem_cons.1 hz with rfl | hz; omega; have := d z hz; omega) (.cons y l a b c d e)
    · refine .cons y _ a b c (fun z hz => ?_) ih
      rcases mem_insX.1 hz with rfl | hz
      · omega
      · exact d z hz
theorem Srt.sorted {acc l : List (Int × Int)} (h : Srt acc) : Srt (Go.VC.sorted acc l) := by
  induction l generalizing acc with
  | nil => exact h
  | cons x l ih =>
    simp only [Go.VC.sorted]
    split
    · rename_i hx
      exact ih (h.insX (by simp only [clip]; omega) hx (by simp only [clip]; omega))
    · exact ih h
theorem mem'_insX {x : (Int × Int)} {l : List (Int × Int)} {p : Int} : mem' (insX x l) p ↔ (x.1 ≤ p ∧ p < x.2) ∨ mem' l p := by
  simp only [mem', mem_insX]
  constructor
  · rintro ⟨y, rfl | hy, h⟩
    · exact .inl h
    · exact .inr ⟨y, hy, h⟩
  · rintro (h | ⟨y, hy, h⟩)
    · exact ⟨x, .inl rfl, h⟩
    · exact ⟨y, .inr hy, h⟩
theorem clip_mem {x : (Int × Int)} {p : Int} : (clip x).1 ≤ p ∧ p < (clip x).2 ↔ 0 ≤ p ∧ p < 1000000 ∧ x.1 ≤ p ∧ p < x.2 := by
  simp only [clip]; omega
theorem mem'_sorted {acc l : List (Int × Int)} {p : Int} : mem' (sorted acc l) p ↔ mem' acc p ∨ pl l p := by
  induction l generalizing acc with
  | nil => simp [sorted, pl]
  | cons x l ih =>
    have hc : pl (x :: l) p ↔ ((clip x).1 ≤ p ∧ p < (clip x).2) ∨ pl l p := by
      rw [clip_mem, pl_iff, pl_iff, mem'_cons]
      constructor
      · rintro ⟨a, b, c | c⟩
        · exact .inl ⟨a, b, c⟩
        · exact .inr ⟨a, b, c⟩
      · rintro (⟨a, b, c⟩ | ⟨a, b, c⟩)
        · exact ⟨a, b, .inl c⟩
        · exact ⟨a, b, .inr c⟩
    rw [hc]
    simp only [sorted]
    split
    · rw [ih, mem'_insX, or_assoc]
      constructor
      · rintro (h | h | h) <;> simp [h]
      · rintro (h | h | h) <;> simp [h]
    · rename_i hx
      rw [ih]
      constructor
      · rintro (h | h) <;> simp [h]
      · rintro (h | h | h)
        · exact .inl h
        · omega
        · exact .inr h
theorem mrg_ok {x : (Int × Int)} {l : List (Int × Int)} {a : Int} (ha : a < x.1) (h : Srt (x :: l)) : CanF a (mrg x l) ∧ ∀ p, mem' (mrg x l) p ↔ mem' (x :: l) p := by
  induction l generalizing x a with
  | nil =>
    cases h with
    | cons _ _ h0 h1 h2 h3 h => exact ⟨⟨ha, h1, h2, trivial⟩, fun p => Iff.rfl⟩
  | cons y l ih =>
    cases h with
    | cons _ _ h0 h1 h2 h3 h =>
      cases h with
      | cons _ _ g0 g1 g2 g3 g =>
        simp only [mrg]
        split
        · rename_i hle
          obtain ⟨i1, i2⟩ := ih (x := (x.1, max x.2 y.2)) (a := a) ha (.cons _ _ h0 (by simp only; omega) (by simp only; omega) (fun z hz => h3 z (by simp [hz])) g)
          refine ⟨i1, fun p => ?_⟩
          rw [i2 p, mem'_cons, mem'_cons, mem'_cons]
          have := h3 y (by simp)
          constructor
          · rintro (h | h)
            · simp only at h
              by_cases hp : p < x.2
              · exact .inl ⟨h.1, hp⟩
              · exact .inr (.inl (by omega))
            · exact .inr (.inr h)
          · rintro (h | h | h)
            · exact .inl (by simp only; omega)
            · exact .inl (by simp only; omega)
            · exact .inr h
        · rename_i hle
          obtain ⟨i1, i2⟩ := ih (x := y) (a := x.2) (by omega) (.cons _ _ g0 g1 g2 g3 g)
          refine ⟨⟨ha, h1, h2, i1⟩, fun p => ?_⟩
          rw [mem'_cons, i2 p, mem'_cons (c := y :: l)]
theorem mrgL_ok {l : List (Int × Int)} (h : Srt l) : Can (mrgL l) ∧ ∀ p, mem' (mrgL l) p ↔ mem' l p := by
  cases h with
  | nil => exact ⟨trivial, fun p => Iff.rfl⟩
  | cons x l h0 h1 h2 h3 h => exact mrg_ok (by omega) (.cons x l h0 h1 h2 h3 h)
theorem can_canon (s : List (Int × Int)) : Can (canon s) := (mrgL_ok (Srt.nil.sorted)).1
theorem pl_canon {s : List (Int × Int)} {p : Int} : pl (canon s) p ↔ pl s p := by
  rw [(can_canon s).pl_mem, canon, (mrgL_ok (Srt.nil.sorted)).2 p, mem'_sorted, mem'_nil, false_or]
theorem canon_eq {s c : List (Int × Int)} (hc : Can c) (h : ∀ p, pl c p ↔ pl s p) : canon s = c :=
  (can_canon s).uniq hc fun p => by rw [pl_canon, h]
theorem canon_can {c : List (Int × Int)} (hc : Can c) : canon c = c := canon_eq hc fun _ => Iff.rfl
theorem canon_congr {s t : List (Int × Int)} (h : ∀ p, pl s p ↔ pl t p) : canon s = canon t := canon_eq (can_canon t) fun p => by rw [pl_canon, h]
theorem compF_ok {a : Int} {c : List (Int × Int)} (h : CanF (a - 1) c ∨ CanF a c) : CanF (a - 1) (compF a c) ∧ ∀ p, mem' (compF a c) p ↔ (a ≤ p ∧ p < 1000000 ∧ ¬ mem' c p) := by
  induction c generalizing a with
  | nil =>
    simp only [compF]
    split
    · exact ⟨⟨by simp only; omega, by assumption, Int.le_refl _, trivial⟩, fun p => by simp [mem'_cons, mem'_nil]⟩
    · exact ⟨trivial, fun p => by simp [mem'_nil]; omega⟩
  | cons x c ih =>
    have hw : CanF (a - 1) (x :: c) := by
      rcases h with h | h
      · exact h
      · exact h.weaken (by omega)
    have h1 := hw.1; have h2 := hw.2.1; have h3 := hw.2.2.1; have h4 := hw.2.2.2
    obtain ⟨i1, i2⟩ := ih (a := x.2) (.inr h4)
    have hg : ∀ p, mem' c p → x.2 < p := fun p hp => h4.gt hp
    simp only [compF]
    split
    · rename_i hlt
      refine ⟨⟨by simp only; omega, hlt, by simp only; omega, ?_⟩, fun p => ?_⟩
      · exact i1.weaken (by simp only; omega)
      · rw [mem'_cons, mem'_cons, i2 p]
        simp only
        constructor
        · rintro (h | ⟨h, h', h''⟩)
          · refine ⟨by omega, by omega, fun h' => ?_⟩
            rcases h' with h' | h'
            · omega
            · have := hg _ h'; omega
          · exact ⟨by omega, h', fun h' => by rcases h' with h' | h'; omega; exact h'' h'⟩
        · rintro ⟨g1, g2, g3⟩
          by_cases hp : p < x.1
          · exact .inl ⟨g1, hp⟩
          · exact .inr ⟨by by_cases hq : x.2 ≤ p; exact hq; exact (g3 (.inl ⟨by omega, by omega⟩)).elim, g2, fun h' => g3 (.inr h')⟩
    · rename_i hlt
      refine ⟨i1.weaken (by omega), fun p => ?_⟩
      rw [mem'_cons, i2 p]
      constructor
      · rintro ⟨g1, g2, g3⟩
        exact ⟨by omega, g2, fun h' => by rcases h' with h' | h'; omega; exact g3 h'⟩
      · rintro ⟨g1, g2, g3⟩
        exact ⟨by by_cases hq : x.2 ≤ p; exact hq; exact (g3 (.inl ⟨by omega, by omega⟩)).elim, g2, fun h' => g3 (.inr h')⟩
theorem can_compl (s : List (Int × Int)) : Can (compl s) := (compF_ok (a := 0) (.inl (can_canon s))).1
theorem pl_compl {s : List (Int × Int)} {p : Int} : pl (compl s) p ↔ 0 ≤ p ∧ p < 1000000 ∧ ¬ pl s p := by
  rw [(can_compl s).pl_mem, compl, (compF_ok (a := 0) (.inl (can_canon s))).2 p, ← (can_canon s).pl_mem, pl_canon]
theorem compl_eq {s c : List (Int × Int)} (hc : Can c) (h : ∀ p, pl c p ↔ 0 ≤ p ∧ p < 1000000 ∧ ¬ pl s p) : compl s = c :=
  (can_compl s).uniq hc fun p => by rw [pl_compl, h]
theorem compl_congr {s t : List (Int × Int)} (h : ∀ p, pl s p ↔ pl t p) : compl s = compl t := compl_eq (can_compl t) fun p => by rw [pl_compl, h]
theorem can_union (l : List (List (Int × Int))) : Can (union l) := can_canon _
theorem pl_flatten {l : List (List (Int × Int))} {p : Int} : pl l.flatten p ↔ ∃ s ∈ l, pl s p := by
  simp only [pl, List.mem_flatten]
  constructor
  · rintro ⟨a, b, x, ⟨s, hs, hx⟩, h⟩; exact ⟨s, hs, a, b, x, hx, h⟩
  · rintro ⟨s, hs, a, b, x, hx, h⟩; exact ⟨a, b, x, ⟨s, hs, hx⟩, h⟩
theorem pl_union {l : List (List (Int × Int))} {p : Int} : pl (union l) p ↔ ∃ s ∈ l, pl s p := by rw [union, pl_canon, pl_flatten]
theorem can_inter (l : List (List (Int × Int))) : Can (inter l) := can_compl _
theorem pl_inter {l : List (List (Int × Int))} {p : Int} : pl (inter l) p ↔ 0 ≤ p ∧ p < 1000000 ∧ ∀ s ∈ l, pl s p := by
  rw [inter, pl_compl, pl_union]
  constructor
  · rintro ⟨a, b, h⟩
    refine ⟨a, b, fun s hs => ?_⟩
    by_cases hp : pl s p
    · exact hp
    · exact (h ⟨_, List.mem_map_of_mem hs, pl_compl.2 ⟨a, b, hp⟩⟩).elim
  · rintro ⟨a, b, h⟩
    refine ⟨a, b, ?_⟩
    rintro ⟨s, hs, hp⟩
    obtain ⟨t, ht, rfl⟩ := List.mem_map.1 hs
    exact (pl_compl.1 hp).2.2 (h t ht)
theorem can_minus (a b : List (Int × Int)) : Can (minus a b) := can_inter _
theorem pl_minus {a b : List (Int × Int)} {p : Int} : pl (minus a b) p ↔ pl a p ∧ ¬ pl b p := by
  rw [minus, pl_inter]
  simp only [List.mem_cons, List.not_mem_nil, or_false, forall_eq_or_imp, forall_eq, pl_compl]
  constructor
  · rintro ⟨_, _, h, _, _, h'⟩; exact ⟨h, h'⟩
  · rintro ⟨h, h'⟩; exact ⟨h.1, h.2.1, h, h.1, h.2.1, h'⟩
theorem can_nil_iff {c : List (Int × Int)} (h : Can c) : c = [] ↔ ∀ p, ¬ pl c p := by
  constructor
  · rintro rfl p; simp [pl]
  · intro hn
    refine h.uniq (show Can [] from trivial) fun p => ?_
    exact ⟨fun h' => (hn p h').elim, fun h' => by simp [pl] at h'⟩
theorem subset_iff {a b : List (Int × Int)} : subset a b = true ↔ ∀ p, pl a p → pl b p := by
  rw [subset, List.isEmpty_iff, can_nil_iff (can_minus a b)]
  constructor
  · intro h p hp
    by_cases hb : pl b p
    · exact hb
    · exact (h p (pl_minus.2 ⟨hp, hb⟩)).elim
  · intro h p hp
    have := pl_minus.1 hp
    exact this.2 (h p this.1)
end Go.VC
end

section
/- Lemmas for the steps of the functions on sets. -/
namespace Go.VC
theorem Std_part {α : Type} {f : α → List D} {l : List α} {a b : Nat} : Std.part (encL f l) (a : Int) (b : Int) = encL f ((l.drop a).take (b - a)) := by
  simp [Std, std, encL, rowsD, List.map_drop, List.map_take]
theorem Std_cellI {α : Type} {f : α → List D} {l : List α} {a : Int} {j : Nat} (i : Nat) (ha : a = i) (h : i < l.length) : Std.cell (encL f l) a j = (f l[i]).getD j .nil := by
  subst ha; exact Std_cell h
theorem Std_setc {α : Type} {f : α → List D} {l : List α} {a : Int} {i off : Nat} {vs : List D} {y : α} (ha : a = i) (h : i < l.length) (hy : (f l[i]).take off ++ vs ++ (f l[i]).drop (off + vs.length) = f y) : Std.setc (encL f l) a off vs = encL f (l.set i y) := by
  subst ha
  simp only [Std, std, encL, rowsD, Int.toNat_natCast]
  congr 1
  apply List.ext_getElem (by simp)
  intro j h1 h2
  simp only [List.getElem_modify, List.getElem_map, List.getElem_set]
  split
  · rename_i hij; subst hij; exact hy
  · rfl
theorem encX_cell0 {l : List (Int × Int)} {a : Int} (i : Nat) (ha : a = i) (h : i < l.length) : Std.cell (encL encX l) a 0 = .int l[i].1 := by rw [Std_cellI i ha h]; rfl
theorem encX_cell1 {l : List (Int × Int)} {a : Int} (i : Nat) (ha : a = i) (h : i < l.length) : Std.cell (encL encX l) a 1 = .int l[i].2 := by rw [Std_cellI i ha h]; rfl
theorem Std_max' {a b : Int} : Std.max a b = max a b := by rw [Std_max]; split <;> omega
theorem Std_min' {a b : Int} : Std.min a b = min a b := by rw [Std_min]; split <;> omega
theorem Std_partI {α : Type} {f : α → List D} {l : List α} {a b : Int} : Std.part (encL f l) a b = encL f ((l.drop a.toNat).take (b.toNat - a.toNat)) := by
  simp [Std, std, encL, rowsD, List.map_drop, List.map_take]
theorem Std_len_app {d e : D} : Std.len (Std.app d e) = Std.len d + Std.len e := by simp [Std, std, rowsD]
theorem Std_len_lit {l : List (List D)} : Std.len (Std.lit l) = (l.length : Int) := by simp [Std, std, rowsD]
def gx (l : List (Int × Int)) (a : Int) : (Int × Int) := l.getD a.toNat (0, 0)
theorem gx_get {l : List (Int × Int)} {a : Int} (i : Nat) (ha : a = i) (h : i < l.length) : gx l a = l[i] := by subst ha; simp [gx, h]
theorem Std_x0 {l : List (Int × Int)} {a : Int} : Std.asInt (Std.cell (encL encX l) a 0) = (gx l a).1 := by
  simp only [Std, std, encL, rowsD, gx]
  rcases Nat.lt_or_ge a.toNat l.length with h | h
  · simp [List.getD_eq_getElem?_getD, h, encX]
  · simp [List.getD_eq_getElem?_getD, h]
theorem Std_x1 {l : List (Int × Int)} {a : Int} : Std.asInt (Std.cell (encL encX l) a 1) = (gx l a).2 := by
  simp only [Std, std, encL, rowsD, gx]
  rcases Nat.lt_or_ge a.toNat l.length with h | h
  · simp [List.getD_eq_getElem?_getD, h, encX]
  · simp [List.getD_eq_getElem?_getD, h]
theorem lit1 {α : Type} {f : α → List D} {x : α} {l : List D} (h : l = f x) : Std.lit [l] = encL f [x] := by subst h; rfl
theorem lit0 {α : Type} {f : α → List D} : Std.lit [] = encL f [] := rfl
theorem lit2 {α : Type} {f : α → List D} {x y : α} {l k : List D} (h : l = f x) (h' : k = f y) : Std.lit [l, k] = encL f [x, y] := by subst h; subst h'; rfl
theorem Std_app' {α : Type} {f : α → List D} {l k : List α} {d e : D} (hd : d = encL f l) (he : e = encL f k) : Std.app d e = encL f (l ++ k) := by subst hd; subst he; exact Std_app

theorem take_succ' {α : Type} {l : List α} {i : Nat} (h : i < l.length) : l.take (i+1) = l.take i ++ [l[i]] := by rw [List.take_succ_eq_append_getElem h]
theorem sorted_snoc {acc l : List (Int × Int)} {x : (Int × Int)} : sorted acc (l ++ [x]) = if (clip x).1 < (clip x).2 then insX (clip x) (sorted acc l) else sorted acc l := by
  induction l generalizing acc with
  | nil => simp only [List.nil_append, sorted]
  | cons y l ih => simp only [List.cons_append, sorted]; split <;> exact ih
theorem insX_split {x : (Int × Int)} : ∀ {l : List (Int × Int)} {k : Nat}, (∀ y ∈ l.take k, y.1 ≤ x.1) → (∀ y ∈ l.drop k, x.1 < y.1) → insX x l = l.take k ++ x :: l.drop k
  | [], k, _, _ => by simp [insX]
  | y :: l, 0, _, h => by
    have := h y (by simp)
    simp [insX, this]
  | y :: l, k+1, h, h' => by
    have h1 : y.1 ≤ x.1 := h y (by simp)
    have := insX_split (x := x) (l := l) (k := k) (fun z hz => h z (by simp [hz])) (fun z hz => h' z (by simpa using hz))
    simp only [insX, List.take_succ_cons, List.drop_succ_cons, List.cons_append]
    rw [if_neg (by omega), this]
theorem length_insX {x : (Int × Int)} {l : List (Int × Int)} : (insX x l).length = l.length + 1 := by
  induction l with
  | nil => rfl
  | cons y l ih => simp only [insX]; split <;> simp [ih]
theorem length_sorted {acc l : List (Int × Int)} : (sorted acc l).length ≤ acc.length + l.length := by
  induction l generalizing acc with
  | nil => exact Nat.le_refl _
  | cons y l ih =>
    simp only [sorted]; split
    · have := ih (acc := insX (clip y) acc); rw [length_insX] at this; simp only [List.length_cons]; omega
    · have := ih (acc := acc); simp only [List.length_cons]; omega
theorem Srt.take_le {l : List (Int × Int)} (h : Srt l) {k : Nat} (hk : k < l.length) : ∀ y ∈ l.take (k+1), y.1 ≤ l[k].1 := by
  induction h generalizing k with
  | nil => simp at hk
  | cons x l a b c d e ih =>
    intro y hy
    cases k with
    | zero => simp at hy; subst hy; exact Int.le_refl _
    | succ k =>
      simp only [List.take_succ_cons, List.mem_cons] at hy
      simp only [List.getElem_cons_succ]
      rcases hy with rfl | hy
      · exact d _ (List.getElem_mem _)
      · exact ih (by simpa using hk) y hy
theorem drop_pred {α : Type} {l : List α} {k : Nat} (h : 0 < k) (hk : k ≤ l.length) : l.drop (k-1) = l[k-1] :: l.drop k := by
  rw [List.drop_eq_getElem_cons (by omega)]
  congr 2
  omega
theorem set_last {α : Type} {l : List α} {x y : α} : (l ++ [x]).set l.length y = l ++ [y] := by simp [List.set_append]
theorem getElem_last {α : Type} {l : List α} {x : α} : (l ++ [x])[l.length]'(by simp) = x := by simp
/-- how far the spans are drawn together -/
def MrgInv (l : List (Int × Int)) (i : Nat) (o : List (Int × Int)) : Prop := (i = 0 ∧ o = []) ∨ ∃ o' x, o = o' ++ [x] ∧ mrgL l = o' ++ mrg x (l.drop i)
theorem MrgInv.add {l : List (Int × Int)} {i : Nat} {o : List (Int × Int)} (h : MrgInv l i o) (hi : i < l.length) (hn : ∀ o' x, o = o' ++ [x] → x.2 < l[i].1) : MrgInv l (i+1) (o ++ [l[i]]) := by
  rcases h with ⟨rfl, rfl⟩ | ⟨o', x, rfl, h⟩
  · refine .inr ⟨[], l[0], rfl, ?_⟩
    cases l with
    | nil => simp at hi
    | cons y l => simp [mrgL]
  · have := hn _ _ rfl
    refine .inr ⟨o' ++ [x], l[i], rfl, ?_⟩
    rw [h, List.drop_eq_getElem_cons hi, mrg, if_neg (by omega)]
    simp
theorem MrgInv.grow {l : List (Int × Int)} {i : Nat} {o' : List (Int × Int)} {x : (Int × Int)} (h : MrgInv l i (o' ++ [x])) (hi : i < l.length) (hn : l[i].1 ≤ x.2) : MrgInv l (i+1) (o' ++ [(x.1, max x.2 l[i].2)]) := by
  rcases h with ⟨_, h⟩ | ⟨o'', x', ho, h⟩
  · simp at h
  · obtain ⟨rfl, hx⟩ := List.append_inj' ho rfl
    simp only [List.cons.injEq, and_true] at hx
    subst hx
    refine .inr ⟨o', _, rfl, ?_⟩
    rw [h, List.drop_eq_getElem_cons hi, mrg, if_pos hn]
theorem MrgInv.done {l : List (Int × Int)} {i : Nat} {o : List (Int × Int)} (h : MrgInv l i o) (hi : i = l.length) : o = mrgL l := by
  subst hi
  rcases h with ⟨h0, rfl⟩ | ⟨o', x, rfl, h⟩
  · cases l with
    | nil => rfl
    | cons => simp at h0
  · rw [h]; simp [mrg]
end Go.VC
namespace Go.VC
theorem compF_cons {a : Int} {x : (Int × Int)} {c : List (Int × Int)} : compF a (x :: c) = (if a < x.1 then [(a, x.1)] else []) ++ compF x.2 c := by
  simp only [compF]; split <;> simp
theorem lit1e {α : Type} {f : α → List D} (x : α) {l : List D} (h : l = f x) : Std.lit [l] = encL f [x] := by subst h; rfl
def encSS (l : List (List (Int × Int))) : D := encL (fun s => [encL encX s]) l
theorem encSS_len {l : List (List (Int × Int))} : Std.len (encSS l) = (l.length : Int) := Std_len
theorem encSS_cell {l : List (List (Int × Int))} {a : Int} (i : Nat) (ha : a = i) (h : i < l.length) : Std.cell (encSS l) a 0 = encL encX l[i] := by rw [encSS, Std_cellI i ha h]; rfl
end Go.VC
end

section
/- Terms: what the functions on them return. -/
namespace Go.VC
def gt (l : List Term) (a : Int) : Term := l.getD a.toNat ⟨[], false, []⟩
theorem gt_get {l : List Term} {a : Int} (i : Nat) (ha : a = i) (h : i < l.length) : gt l a = l[i] := by subst ha; simp [gt, h]
theorem Std_t0 {l : List Term} {a : Int} : Std.asStr (Std.cell (encL encT l) a 0) = (gt l a).path := by
  simp only [Std, std, encL, rowsD, gt]
  rcases Nat.lt_or_ge a.toNat l.length with h | h
  · simp [List.getD_eq_getElem?_getD, h, encT]
  · simp [List.getD_eq_getElem?_getD, h]
theorem Std_t1 {l : List Term} {a : Int} : Std.asBool (Std.cell (encL encT l) a 1) = (gt l a).absent := by
  simp only [Std, std, encL, rowsD, gt]
  rcases Nat.lt_or_ge a.toNat l.length with h | h
  · simp [List.getD_eq_getElem?_getD, h, encT]
  · simp [List.getD_eq_getElem?_getD, h]
theorem encT_cell2 {l : List Term} {a : Int} (i : Nat) (ha : a = i) (h : i < l.length) : Std.cell (encL encT l) a 2 = encL encX l[i].set := by rw [Std_cellI i ha h]; rfl
theorem encT_cell2' {l : List Term} {a : Int} (h : 0 ≤ a ∧ a < l.length) : Std.cell (encL encT l) a 2 = encL encX (gt l a).set := by
  have := encT_cell2 (l := l) (a := a) a.toNat (by omega) (by omega)
  rw [this, gt_get a.toNat (by omega) (by omega)]

def slt (a b : List UInt8) : Bool := Op.bytesLess a b
def normT (t : Term) : Term := ⟨t.path, t.absent, canon t.set⟩
def tNever (t : Term) : Bool := !t.absent && t.set.isEmpty
def tAlways (t : Term) : Bool := t.absent && (t.set == [(0, 1000000)])
def both (a b : Term) : Term := ⟨a.path, a.absent && b.absent, inter [a.set, b.set]⟩
def addT (t : Term) : List Term → List Term
  | [] => [t]
  | u :: m => if slt u.path t.path = true then u :: addT t m else if u.path = t.path then both u t :: m else t :: u :: m
def mergedT : List Term → List Term → List Term
  | m, [] => m
  | m, t :: l => mergedT (addT (normT t) m) l
def canonT (l : List Term) : List Term × Bool :=
  if (mergedT [] l).any tNever then ([], false) else ((mergedT [] l).filter fun t => !tAlways t, true)
theorem mergedT_snoc {m l : List Term} {t : Term} : mergedT m (l ++ [t]) = addT (normT t) (mergedT m l) := by
  induction l generalizing m with
  | nil => rfl
  | cons u l ih => exact ih
theorem addT_split {t : Term} : ∀ {m : List Term} {k : Nat}, (∀ u ∈ m.take k, slt u.path t.path = true) → (∀ h : k < m.length, slt m[k].path t.path = false) →
    addT t m = m.take k ++ (if h : k < m.length then if m[k].path = t.path then both m[k] t :: m.drop (k+1) else t :: m.drop k else [t])
  | [], k, _, _ => by simp [addT]
  | u :: m, 0, _, h => by
    have := h (by simp)
    simp only [List.getElem_cons_zero] at this
    simp [addT, this]
  | u :: m, k+1, h, h' => by
    have h1 := h u (by simp)
    have := addT_split (t := t) (m := m) (k := k) (fun v hv => h v (by simp [hv])) (fun hk => h' (by simpa using hk))
    simp only [addT, h1, if_true, this, List.take_succ_cons, List.cons_append, List.length_cons, Nat.add_lt_add_iff_right, List.getElem_cons_succ, List.drop_succ_cons]
theorem length_addT {t : Term} {m : List Term} : (addT t m).length ≤ m.length + 1 := by
  induction m with
  | nil => simp [addT]
  | cons u m ih => simp only [addT]; split; simp only [List.length_cons]; omega; split <;> simp
theorem length_mergedT {m l : List Term} : (mergedT m l).length ≤ m.length + l.length := by
  induction l generalizing m with
  | nil => exact Nat.le_refl _
  | cons t l ih => have := ih (m := addT (normT t) m); have := length_addT (t := normT t) (m := m); simp only [mergedT, List.length_cons]; omega
/-- all sets are canonical -/
def CanT (l : List Term) : Prop := ∀ t ∈ l, Can t.set
theorem CanT.addT {t : Term} {m : List Term} (ht : Can t.set) (h : CanT m) : CanT (addT t m) := by
  induction m with
  | nil => intro u hu; simp [Go.VC.addT] at hu; subst hu; exact ht
  | cons v m ih =>
    have hm : CanT m := fun u hu => h u (by simp [hu])
    intro u hu
    simp only [Go.VC.addT] at hu
    split at hu
    · rcases List.mem_cons.1 hu with rfl | hu
      · exact h _ (by simp)
      · exact ih hm u hu
    · split at hu
      · rcases List.mem_cons.1 hu with rfl | hu
        · exact can_inter _
        · exact hm u hu
      · rcases List.mem_cons.1 hu with rfl | hu
        · exact ht
        · exact h u hu
theorem CanT.mergedT {m l : List Term} (h : CanT m) : CanT (mergedT m l) := by
  induction l generalizing m with
  | nil => exact h
  | cons t l ih => exact ih (CanT.addT (can_canon _) h)
def findT' (l : List Term) (p : List UInt8) : Option Term := l.find? fun t => t.path == p
def without (l : List Term) (p : List UInt8) : List Term := l.filter fun t => !(t.path == p)
end Go.VC
end

section
/- More lemmas on the steps. -/
namespace Go.VC
theorem Std_len_setc {d : D} {i : Int} {off : Nat} {vs : List D} : Std.len (Std.setc d i off vs) = Std.len d := by simp [Std, std, rowsD]
theorem Std_slt' {a b : List UInt8} : Std.slt a b = slt a b := rfl
theorem ins_ok {α : Type} {f : α → List D} {l : List α} {k : Nat} {x : α} {row : List D} (h : row = f x) : Std.app (Std.part (encL f l) 0 (k : Int)) (Std.app (Std.lit [row]) (Std.part (encL f l) (k : Int) (Std.len (encL f l)))) = encL f (l.take k ++ x :: l.drop k) := by
  subst h
  have e0 := Std_part (f := f) (l := l) (a := 0) (b := k)
  have e1 := Std_part (f := f) (l := l) (a := k) (b := l.length)
  rw [show ((0 : Nat) : Int) = 0 from rfl] at e0
  rw [Std_len, e0, e1, show Std.lit [f x] = encL f [x] from rfl, Std_app, Std_app]
  simp [List.take_of_length_le]
theorem upd1 {M : List Term} {k : Nat} (hk : k < M.length) {v : Bool} : Std.setc (encL encT M) (k : Int) 1 [.bool v] = encL encT (M.set k ⟨M[k].path, v, M[k].set⟩) :=
  Std_setc (i := k) rfl hk rfl
theorem upd1c {M : List Term} {k : Nat} (hk : k < M.length) {v : Bool} : Std.cell (Std.setc (encL encT M) (k : Int) 1 [.bool v]) (k : Int) 2 = encL encX M[k].set := by
  rw [upd1 hk, encT_cell2 k rfl (by simp; exact hk)]
  simp
theorem upd2 {M : List Term} {k : Nat} (hk : k < M.length) {v : Bool} {t : Term} (hv : v = (M[k].absent && t.absent)) {r : D} (hr : r = encL encX (inter [M[k].set, canon t.set])) :
    Std.setc (Std.setc (encL encT M) (k : Int) 1 [.bool v]) (k : Int) 2 [r] = encL encT (M.set k (both M[k] (normT t))) := by
  rw [upd1 hk, Std_setc (i := k) (y := both M[k] (normT t)) rfl (by simp; exact hk)]
  · simp
  · subst hv; subst hr; simp [encT, both, normT]
theorem addT_set {t : Term} {M : List Term} {k : Nat} (hk : k < M.length) (h1 : ∀ u ∈ M.take k, slt u.path t.path = true) (h2 : slt M[k].path t.path = false) (h3 : M[k].path = t.path) : addT (normT t) M = M.set k (both M[k] (normT t)) := by
  rw [addT_split (t := normT t) (k := k) h1 (fun _ => h2), dif_pos hk, if_pos (show M[k].path = (normT t).path from h3), List.set_eq_take_append_cons_drop, if_pos hk]
theorem addT_ins {t : Term} {M : List Term} {k : Nat} (hk : k ≤ M.length) (h1 : ∀ u ∈ M.take k, slt u.path t.path = true) (h2 : ∀ h : k < M.length, slt M[k].path t.path = false ∧ ¬ M[k].path = t.path) : addT (normT t) M = M.take k ++ normT t :: M.drop k := by
  rw [addT_split (t := normT t) (k := k) h1 (fun h => (h2 h).1)]
  split
  · rename_i hlt
    rw [if_neg (show ¬ M[k].path = (normT t).path from (h2 hlt).2)]
  · rw [List.drop_of_length_le (by omega)]
end Go.VC
end

section
/- What the functions on incompatibilities return. -/
namespace Go.VC
theorem canonT_len {l : List Term} : (canonT l).1.length ≤ l.length := by
  have h := length_mergedT (m := []) (l := l)
  simp only [List.length_nil, Nat.zero_add] at h
  unfold canonT
  split
  · simp
  · exact Nat.le_trans (List.length_filter_le _ _) h
theorem canonT_can {l : List Term} : CanT (canonT l).1 := by
  have h : CanT (mergedT [] l) := CanT.mergedT (fun t ht => by simp at ht)
  unfold canonT
  split
  · intro t ht; simp at ht
  · intro t ht; exact h t (List.mem_filter.1 ht).1
theorem without_mem {l : List Term} {p : List UInt8} {t : Term} (h : t ∈ without l p) : t ∈ l := (List.mem_filter.1 h).1
theorem without_len {l : List Term} {p : List UInt8} : (without l p).length ≤ l.length := List.length_filter_le _ _
theorem findT'_mem {l : List Term} {p : List UInt8} {t : Term} (h : findT' l p = some t) : t ∈ l ∧ t.path = p := by
  have := List.find?_some h
  exact ⟨List.mem_of_find?_eq_some h, by simpa using this⟩
def unsat (p : List UInt8) (s : List (Int × Int)) : Term := ⟨p, true, compl s⟩
def rootT (p : List UInt8) (s : List (Int × Int)) : List Term := (canonT [unsat p s]).1
def oneP (place : Int) : List (Int × Int) := if place < 0 ∨ 1000000 ≤ place then [] else minus (canon [(place, 1000000)]) (canon [(place + 1, 1000000)])
def requiresT (path : List UInt8) (place : Int) (p : List UInt8) (s : List (Int × Int)) : List Term := (canonT [⟨path, false, oneP place⟩, unsat p s]).1
def noneT (path : List UInt8) (s : List (Int × Int)) : List Term := (canonT [⟨path, false, compl s⟩]).1
def eitherT (path : List UInt8) (s t : Term) : Term := ⟨path, s.absent || t.absent, union [s.set, t.set]⟩
def resolveX (x y : List Term) (b1 b2 : Bool) (path : List UInt8) : List Term × Int :=
  if b1 = true ∧ b2 = true then
    match findT' x path, findT' y path with
    | some s, some t => if (canonT (without x path ++ without y path ++ [eitherT path s t])).2 = true then ((canonT (without x path ++ without y path ++ [eitherT path s t])).1, 0) else ([], 8)
    | _, _ => ([], 1)
  else ([], 1)
theorem rX1 {x y : List Term} {b1 b2 : Bool} {p : List UInt8} (h : b1 = false) : resolveX x y b1 b2 p = ([], 1) := by subst h; simp [resolveX]
theorem rX2 {x y : List Term} {b1 b2 : Bool} {p : List UInt8} (h : b2 = false) : resolveX x y b1 b2 p = ([], 1) := by subst h; simp [resolveX]
theorem rX3 {x y : List Term} {b1 b2 : Bool} {p : List UInt8} (h : findT' x p = none) : resolveX x y b1 b2 p = ([], 1) := by simp [resolveX, h]
theorem rX4 {x y : List Term} {b1 b2 : Bool} {p : List UInt8} (h : findT' y p = none) : resolveX x y b1 b2 p = ([], 1) := by
  simp only [resolveX, h]; split
  · split <;> simp_all
  · rfl
def resolveT (a b : List Term) (path : List UInt8) : List Term × Int := resolveX (canonT a).1 (canonT b).1 (canonT a).2 (canonT b).2 path
def sub1 (y : List Term) (t : Term) : Bool := match findT' y t.path with
  | some u => !(u.absent && !t.absent) && subset u.set t.set
  | none => false
def subsumesX (x y : List Term) (b1 b2 : Bool) : Bool := if b2 = true ∧ b1 = true then x.all (sub1 y) else !b2
def subsumesT (a b : List Term) : Bool := subsumesX (canonT a).1 (canonT b).1 (canonT a).2 (canonT b).2
end Go.VC
end

section
/- Sets by the solver's own way: clipped, sorted by the library, drawn together in place. -/
namespace Go.VC
def clipF (l : List (Int × Int)) : List (Int × Int) := (l.map clip).filter fun x => decide (x.1 < x.2)
theorem clipF_snoc {l : List (Int × Int)} {x : (Int × Int)} : clipF (l ++ [x]) = clipF l ++ (if (clip x).1 < (clip x).2 then [clip x] else []) := by
  simp only [clipF, List.map_append, List.map_cons, List.map_nil, List.filter_append, List.filter_cons, List.filter_nil]
  by_cases h : (clip x).1 < (clip x).2 <;> simp [h]
theorem clipF_len {l : List (Int × Int)} : (clipF l).length ≤ l.length := by
  have := List.length_filter_le (fun x : Int × Int => decide (x.1 < x.2)) (l.map clip)
  simpa [clipF] using this
theorem clipF_mem {l : List (Int × Int)} {x : (Int × Int)} (h : x ∈ clipF l) : 0 ≤ x.1 ∧ x.1 < x.2 ∧ x.2 ≤ 1000000 := by
  simp only [clipF, List.mem_filter, List.mem_map, decide_eq_true_eq] at h
  obtain ⟨⟨y, _, rfl⟩, h⟩ := h
  exact ⟨by simp only [clip]; omega, h, by simp only [clip]; omega⟩
theorem mem'_clipF {l : List (Int × Int)} {p : Int} : mem' (clipF l) p ↔ pl l p := by
  simp only [mem', clipF, List.mem_filter, List.mem_map, decide_eq_true_eq, pl]
  constructor
  · rintro ⟨x, ⟨⟨y, hy, rfl⟩, h⟩, h1⟩
    obtain ⟨a, b, c, d⟩ := clip_mem.1 h1
    exact ⟨a, b, y, hy, c, d⟩
  · rintro ⟨a, b, y, hy, c, d⟩
    have := clip_mem.2 ⟨a, b, c, d⟩
    exact ⟨clip y, ⟨⟨y, hy, rfl⟩, by omega⟩, this⟩
theorem srt_of {l : List (Int × Int)} (h1 : ∀ i j (hi : i < l.length) (hj : j < l.length), i < j → l[i].1 ≤ l[j].1) (h2 : ∀ x ∈ l, 0 ≤ x.1 ∧ x.1 < x.2 ∧ x.2 ≤ 1000000) : Srt l := by
  induction l with
  | nil => exact .nil
  | cons x l ih =>
    obtain ⟨a, b, c⟩ := h2 x (by simp)
    refine .cons x l a b c (fun y hy => ?_) (ih (fun i j hi hj hij => ?_) fun y hy => h2 y (by simp [hy]))
    · obtain ⟨j, hj, rfl⟩ := List.mem_iff_getElem.1 hy
      have := h1 0 (j+1) (by simp) (by simp; exact hj) (by omega)
      simpa using this
    · have := h1 (i+1) (j+1) (by simp; exact hi) (by simp; exact hj) (by omega)
      simpa using this
theorem canon_of_sorted {s S : List (Int × Int)} (hp : S.Perm (clipF s)) (h1 : ∀ i j (hi : i < S.length) (hj : j < S.length), i < j → S[i].1 ≤ S[j].1) : canon s = mrgL S := by
  have hS : Srt S := srt_of h1 fun x hx => clipF_mem (hp.mem_iff.1 hx)
  obtain ⟨a, b⟩ := mrgL_ok hS
  refine canon_eq a fun p => ?_
  rw [a.pl_mem, b p, ← mem'_clipF]
  simp only [mem', hp.mem_iff]
/-- the row while it is drawn together: the first n are done, from i on nothing has turned -/
structure Cur (S cur : List (Int × Int)) (i n : Nat) (o : List (Int × Int)) : Prop where
  len : cur.length = S.length
  ni : n ≤ i
  on : o.length = n
  tk : cur.take n = o
  dr : cur.drop i = S.drop i
  inv : MrgInv S i o
theorem Cur.get {S cur : List (Int × Int)} {i n : Nat} {o : List (Int × Int)} (h : Cur S cur i n o) (hi : i < S.length) : cur[i]'(by rw [h.len]; exact hi) = S[i] := by
  have h1 := h.dr
  rw [List.drop_eq_getElem_cons (by rw [h.len]; exact hi), List.drop_eq_getElem_cons hi] at h1
  exact (List.cons.inj h1).1
theorem Cur.add {S cur : List (Int × Int)} {i n : Nat} {o : List (Int × Int)} (h : Cur S cur i n o) (hi : i < S.length) (hn : ∀ o' x, o = o' ++ [x] → x.2 < S[i].1) : Cur S (cur.set n S[i]) (i+1) (n+1) (o ++ [S[i]]) := by
  obtain ⟨h1, h2, h3, h4, h5, h6⟩ := h
  have hnl : n < cur.length := by omega
  refine ⟨by simp [h1], by omega, by simp [h3], ?_, ?_, h6.add hi hn⟩
  · rw [List.take_succ_eq_append_getElem (by simp; exact hnl), List.take_set_of_le (by omega), h4]; simp
  · rw [List.drop_set_of_lt (by omega)]
    rw [List.drop_eq_getElem_cons (by omega), List.drop_eq_getElem_cons hi] at h5
    exact (List.cons.inj h5).2
theorem Cur.grow {S cur : List (Int × Int)} {i n : Nat} {o' : List (Int × Int)} {x : (Int × Int)} (h : Cur S cur i n (o' ++ [x])) (hi : i < S.length) (hn : S[i].1 ≤ x.2) : Cur S (cur.set (n-1) (x.1, max x.2 S[i].2)) (i+1) n (o' ++ [(x.1, max x.2 S[i].2)]) := by
  obtain ⟨h1, h2, h3, h4, h5, h6⟩ := h
  simp only [List.length_append, List.length_singleton] at h3
  refine ⟨by simp [h1], by omega, by simp [h3], ?_, ?_, h6.grow hi hn⟩
  · have hnl : n - 1 < cur.length := by omega
    have e : n = (n - 1) + 1 := by omega
    have h7 : cur.take (n-1) = o' := by
      have := congrArg (List.take (n-1)) h4
      rw [List.take_take, Nat.min_eq_left (by omega)] at this
      rw [this, List.take_append_of_le_length (by omega), List.take_of_length_le (by omega)]
    rw [show cur.set (n-1) (x.1, max x.2 S[i].2) = cur.set (n-1) (x.1, max x.2 S[i].2) from rfl]
    rw [e, List.take_succ_eq_append_getElem (by simp; exact hnl)]
    simp only [Nat.add_sub_cancel]
    rw [List.take_set_of_le (Nat.le_refl _), h7]; simp
  · rw [List.drop_set_of_lt (by omega)]
    rw [List.drop_eq_getElem_cons (by omega), List.drop_eq_getElem_cons hi] at h5
    exact (List.cons.inj h5).2
theorem Cur.last {S cur : List (Int × Int)} {i n : Nat} {o' : List (Int × Int)} {x : (Int × Int)} (h : Cur S cur i n (o' ++ [x])) : ∃ hn : n - 1 < cur.length, cur[n-1] = x ∧ 0 < n := by
  obtain ⟨h1, h2, h3, h4, h5, h6⟩ := h
  simp only [List.length_append, List.length_singleton] at h3
  have hl : (cur.take n).length = n := by rw [h4]; simp [h3]
  rw [List.length_take] at hl
  refine ⟨by omega, ?_, by omega⟩
  have : (cur.take n)[n-1]'(by rw [List.length_take]; omega) = x := by
    simp only [h4]
    have : n - 1 = o'.length := by omega
    simp [this]
  rw [List.getElem_take] at this
  exact this
theorem Cur.ne {S cur : List (Int × Int)} {i n : Nat} {o : List (Int × Int)} (h : Cur S cur i n o) (hi : 0 < i) : ∃ o' x, o = o' ++ [x] := by
  rcases h.inv with ⟨h0, _⟩ | ⟨o', x, h1, _⟩
  · omega
  · exact ⟨o', x, h1⟩
theorem Cur.done {S cur : List (Int × Int)} {i n : Nat} {o : List (Int × Int)} (h : Cur S cur i n o) (hi : i = S.length) : cur.take n = mrgL S := by
  rw [h.tk]; exact h.inv.done hi
end Go.VC
end

section
namespace Go.Proofs
open Go.Shelf Go.RowKit Go.Lib Go.Sort

abbrev SpanB := {x : Int × Int // 0 ≤ x.1 ∧ x.1 ≤ 1000000}
instance : Inhabited SpanB := ⟨⟨(0, 0), by decide⟩⟩
def encSB (x : SpanB) : List Value := [.int .i64 x.1.1, .int .i64 x.1.2]
def cfSB (x y : SpanB) : Int := x.1.1 - y.1.1

set_option maxHeartbeats 1000000 in
theorem closure92 (x y : SpanB) (W : World) : Calls Tryz.prog 92 #[.agg #[.int .i64 x.1.1, .int .i64 x.1.2], .agg #[.int .i64 y.1.1, .int .i64 y.1.2]] W fun e w' => e = .returned (.int .i64 (cfSB x y)) ∧ ∃ q os', w' = grow (W.drewN q) os' := by
  obtain ⟨⟨a, b⟩, ha⟩ := x
  obtain ⟨⟨c, d⟩, hc⟩ := y
  simp only at ha hc
  have hw : IntKind.i64.wrap (a - c) = a - c := by simp [IntKind.wrap, IntKind.bits, IntKind.signed]; omega
  go_enter Tryz.func92, Tryz.ntmps92
  go_wp2
  go_ret
  exact ⟨rfl, 0, _, by rw [alloc_eq_grow, alloc_eq_grow, grow_grow]; rfl⟩

theorem ltSB (x y : SpanB) : ltOf cfSB x y = decide (x.1.1 < y.1.1) := by
  unfold ltOf cfSB
  apply decide_eq_decide.2; omega
theorem swoSB : SWO (ltOf cfSB) where
  irrefl x := by rw [ltSB]; simp
  trans x y z h1 h2 := by rw [ltSB] at *; simp at *; omega
  ntrans x y z h1 h2 := by rw [ltSB] at *; simp at *; omega

set_option maxHeartbeats 2000000 in
theorem sort91 (blk off cap : Nat) (d : Array SpanB) (w : World) (hH : HoldsK encSB 2 w blk off d) (hblk : blk < w.heap.size) (hsz : d.size < 4611686018427387904) :
    Calls Tryz.prog 91 #[.slice (some ⟨blk, off, none⟩) d.size cap, .func (.func 92) #[] #[]] w fun e w' => e = .returned (.tuple #[]) ∧ ∃ d' n os, PermIn 0 d.size d d' ∧ SortedIn (ltOf cfSB) 0 d.size d' ∧ w' = sortWorldK encSB 2 w blk off n d' os := by
  have eg : ∀ args w, (callFunc 92 args).run Tryz.prog w = .ok (.enter 92 args) w := enters_of Tryz.func92 (by kernel_rfl) rfl
  have hcmp : CmpLays Tryz.prog 92 #[] encSB 2 cfSB blk off d.size w := fun _ _ _ _ x y => closure92 x y _
  have hlim : Lib.bitLen d.size < 4611686018427387904 := Nat.lt_of_le_of_lt (Lib.bitLen_le d.size 62 (by omega) (by omega)) (by omega)
  have hp := AnyQ.pdqsortCmpFunc_all Tryz.sortSpan 2 Tryz.isAgg65 Tryz.sizeOf65 encSB cfSB 92 #[] swoSB blk off cap d w eg hcmp ⟨fun _ => rfl, fun x v hv => by simp [encSB] at hv; rcases hv with rfl | rfl <;> rfl, hH, hblk⟩ (d.size + 1) 0 d.size (Lib.bitLen d.size) d w (by omega) rfl (SWK.start hH) (Nat.zero_le _) (Nat.le_refl _) hsz hlim (Or.inl rfl)
  have hl : Calls Tryz.prog 85 #[.int .u64 (d.size : Int)] w fun e w' => e = .returned (.int .i64 (Lib.bitLen d.size : Nat)) ∧ w' = w := by
    have h := Any.bits_Len Tryz.bitsLen (d.size : Int) w (by omega) (by omega)
    rwa [Int.toNat_natCast] at h
  change Calls Tryz.prog 105 _ _ _ at hp
  have wr : IntKind.u64.wrap (d.size : Int) = d.size := by simp [IntKind.wrap, IntKind.bits, IntKind.signed]; omega
  have hfin := pdq_sorts (ltOf cfSB) swoSB d 0 d.size (Lib.bitLen d.size) true true (Nat.zero_le _) (Nat.le_refl _) (Or.inl rfl)
  generalize pdq (ltOf cfSB) d 0 d.size (Lib.bitLen d.size) true true = r at hp hfin
  clear hH hcmp
  go_enter Tryz.func91, Tryz.ntmps91
  go_wp2_with (first | (go_at_call 85; refine hl.mono ?_; rintro e w' ⟨rfl, rfl⟩) | (go_at_call 105; refine hp.mono ?_; rintro e w' ⟨rfl, n, os, rfl⟩))
  go_end0
  exact ⟨rfl, r, n, os, hfin.1, hfin.2, rfl⟩

theorem cmp_lt : ∀ a b : List UInt8, decide (Lib.compareBytes a b < 0) = Op.bytesLess a b
  | [], [] => rfl
  | [], _ :: _ => rfl
  | _ :: _, [] => rfl
  | a :: xs, b :: ys => by
    have ih := cmp_lt xs ys
    simp only [Lib.compareBytes, Op.bytesLess]
    by_cases h1 : a < b
    · simp [h1]
    · by_cases h2 : b < a
      · have h3 : ¬ a = b := fun e => by subst e; exact h1 h2
        simp [h1, h2, h3]
      · have h3 : a = b := by
          rw [UInt8.lt_iff_toNat_lt] at h1 h2
          exact UInt8.toNat.inj (by omega)
        subst h3
        simp [h1, ih]

abbrev TermB := {x : ByteArray × Bool × Value // x.2.2.oneCell' = true}
instance : Inhabited TermB := ⟨⟨(⟨#[]⟩, false, .bool false), rfl⟩⟩
def encTB (x : TermB) : List Value := [.string x.1.1, .bool x.1.2.1, x.1.2.2]
def cfTB (x y : TermB) : Int := Lib.compareBytes x.1.1.data.toList y.1.1.data.toList
set_option maxHeartbeats 1000000 in
theorem closure66 (x y : TermB) (W : World) : Calls Tryz.prog 66 #[.agg #[.string x.1.1, .bool x.1.2.1, x.1.2.2], .agg #[.string y.1.1, .bool y.1.2.1, y.1.2.2]] W fun e w' => e = .returned (.int .i64 (cfTB x y)) ∧ ∃ q os', w' = grow (W.drewN q) os' := by
  obtain ⟨⟨a, b, c⟩, hc⟩ := x
  obtain ⟨⟨a', b', c'⟩, hc'⟩ := y
  simp only at hc hc'
  have hcon := fun W' => Any.strings_Compare Tryz.strCmp a a' W'
  change ∀ W', Calls Tryz.prog 67 _ _ _ at hcon
  simp only [cfTB]
  generalize Lib.compareBytes a.data.toList a'.data.toList = r at hcon ⊢
  go_enter Tryz.func66, Tryz.ntmps66
  go_wp2_with (go_at_call 67; refine (hcon _).mono ?_; rintro e w' ⟨rfl, rfl⟩)
  go_ret
  exact ⟨rfl, 0, _, by rw [alloc_eq_grow, alloc_eq_grow, grow_grow]; rfl⟩
theorem ltTB (x y : TermB) : ltOf cfTB x y = Op.bytesLess x.1.1.data.toList y.1.1.data.toList := cmp_lt _ _
theorem swoTB : SWO (ltOf cfTB) where
  irrefl x := by rw [ltTB, bytesLess_eq]; simp
  trans x y z h1 h2 := by rw [ltTB, bytesLess_eq] at *; simp at *; exact List.lt_trans h1 h2
  ntrans x y z h1 h2 := by rw [ltTB, bytesLess_eq] at *; simp at *; exact List.le_trans h2 h1
set_option maxHeartbeats 2000000 in
theorem sort65 (blk off cap : Nat) (d : Array TermB) (w : World) (hH : HoldsK encTB 3 w blk off d) (hblk : blk < w.heap.size) (hsz : d.size < 4611686018427387904) :
    Calls Tryz.prog 65 #[.slice (some ⟨blk, off, none⟩) d.size cap, .func (.func 66) #[] #[]] w fun e w' => e = .returned (.tuple #[]) ∧ ∃ d' n os, PermIn 0 d.size d d' ∧ SortedIn (ltOf cfTB) 0 d.size d' ∧ w' = sortWorldK encTB 3 w blk off n d' os := by
  have eg : ∀ args w, (callFunc 66 args).run Tryz.prog w = .ok (.enter 66 args) w := enters_of Tryz.func66 (by kernel_rfl) rfl
  have hcmp : CmpLays Tryz.prog 66 #[] encTB 3 cfTB blk off d.size w := fun _ _ _ _ x y => closure66 x y _
  have hlim : Lib.bitLen d.size < 4611686018427387904 := Nat.lt_of_le_of_lt (Lib.bitLen_le d.size 62 (by omega) (by omega)) (by omega)
  have hp := AnyQ.pdqsortCmpFunc_all Tryz.sortTerm 3 Tryz.isAgg51 Tryz.sizeOf51 encTB cfTB 66 #[] swoTB blk off cap d w eg hcmp ⟨fun _ => rfl, fun x v hv => by simp [encTB] at hv; rcases hv with rfl | rfl | rfl <;> first | rfl | exact x.2, hH, hblk⟩ (d.size + 1) 0 d.size (Lib.bitLen d.size) d w (by omega) rfl (SWK.start hH) (Nat.zero_le _) (Nat.le_refl _) hsz hlim (Or.inl rfl)
  have hl : Calls Tryz.prog 85 #[.int .u64 (d.size : Int)] w fun e w' => e = .returned (.int .i64 (Lib.bitLen d.size : Nat)) ∧ w' = w := by
    have h := Any.bits_Len Tryz.bitsLen (d.size : Int) w (by omega) (by omega)
    rwa [Int.toNat_natCast] at h
  change Calls Tryz.prog 84 _ _ _ at hp
  have wr : IntKind.u64.wrap (d.size : Int) = d.size := by simp [IntKind.wrap, IntKind.bits, IntKind.signed]; omega
  have hfin := pdq_sorts (ltOf cfTB) swoTB d 0 d.size (Lib.bitLen d.size) true true (Nat.zero_le _) (Nat.le_refl _) (Or.inl rfl)
  generalize pdq (ltOf cfTB) d 0 d.size (Lib.bitLen d.size) true true = r at hp hfin
  clear hH hcmp
  go_enter Tryz.func65, Tryz.ntmps65
  go_wp2_with (first | (go_at_call 85; refine hl.mono ?_; rintro e w' ⟨rfl, rfl⟩) | (go_at_call 84; refine hp.mono ?_; rintro e w' ⟨rfl, n, os, rfl⟩))
  go_end0
  exact ⟨rfl, r, n, os, hfin.1, hfin.2, rfl⟩

set_option maxHeartbeats 2000000 in
theorem sort91_none (p : Option Addr) (cap : Nat) (w : World) : Calls Tryz.prog 91 #[.slice p 0 cap, .func (.func 92) #[] #[]] w fun e w' => e = .returned (.tuple #[]) ∧ w' = w := by
  have hp := fun lim W => AnyF.pdqsortCmpFunc_none (P := Tryz.prog) (ρ := Tryz.sortSpan_ren) { Tryz.sortSpan with } p cap lim (.func (.func 92) #[] #[]) W
  have hl : ∀ W, Calls Tryz.prog 85 #[.int .u64 0] W fun e w' => e = .returned (.int .i64 (Lib.bitLen 0 : Nat)) ∧ w' = W := fun W => by
    have h := Any.bits_Len Tryz.bitsLen 0 W (by omega) (by omega)
    exact h
  change ∀ lim W, Calls Tryz.prog 105 _ _ _ at hp
  go_enter Tryz.func91, Tryz.ntmps91
  go_wp2_with (first | (go_at_call 85; refine (hl _).mono ?_; rintro e w' ⟨rfl, rfl⟩) | (go_at_call 105; refine (hp _ _).mono ?_; rintro e w' ⟨rfl, rfl⟩))
  go_end0
  exact ⟨rfl, rfl⟩
set_option maxHeartbeats 2000000 in
theorem sort65_none (p : Option Addr) (cap : Nat) (w : World) : Calls Tryz.prog 65 #[.slice p 0 cap, .func (.func 66) #[] #[]] w fun e w' => e = .returned (.tuple #[]) ∧ w' = w := by
  have hp := fun lim W => AnyF.pdqsortCmpFunc_none (P := Tryz.prog) (ρ := Tryz.sortTerm_ren) { Tryz.sortTerm with } p cap lim (.func (.func 66) #[] #[]) W
  have hl : ∀ W, Calls Tryz.prog 85 #[.int .u64 0] W fun e w' => e = .returned (.int .i64 (Lib.bitLen 0 : Nat)) ∧ w' = W := fun W => by
    have h := Any.bits_Len Tryz.bitsLen 0 W (by omega) (by omega)
    exact h
  change ∀ lim W, Calls Tryz.prog 84 _ _ _ at hp
  go_enter Tryz.func65, Tryz.ntmps65
  go_wp2_with (first | (go_at_call 85; refine (hl _).mono ?_; rintro e w' ⟨rfl, rfl⟩) | (go_at_call 84; refine (hp _ _).mono ?_; rintro e w' ⟨rfl, rfl⟩))
  go_end0
  exact ⟨rfl, rfl⟩
end Go.Proofs
end

section
/- The library's sorting contract for integers at this program (written by the kit's lay-plain.mjs). -/
namespace Go.Proofs
open Go.Shelf
def Tryz.sortInts_ren : Go.Shelf.Ren := ⟨fun | 189 => 87 | 125 => 85 | 257 => 104 | 128 => 101 | 129 => 102 | 294 => 111 | 295 => 112 | 296 => 113 | 297 => 114 | 298 => 115 | 299 => 116 | 216 => 117 | 300 => 118 | 301 => 119 | 328 => 129 | 329 => 107 | 330 => 108 | 331 => 130 | 332 => 131 | 215 => 132 | 343 => 136 | n => n, fun | 28 => 101 | 3 => 3 | 46 => 99 | 0 => 0 | 51 => 55 | 53 => 115 | 4 => 4 | 183 => 108 | 182 => 107 | 131 => 57 | 5 => 5 | 9 => 9 | 218 => 118 | 222 => 122 | 228 => 135 | 229 => 136 | n => n, fun | n => n⟩
theorem Tryz.sortInts : Go.Proofs.Lays.n189 Tryz.prog Tryz.sortInts_ren := {
  mixed := by kernel_rfl
  f125 := Tryz.func85.trans (congrArg some (by kernel_rfl))
  f128 := Tryz.func101.trans (congrArg some (by kernel_rfl))
  f129 := Tryz.func102.trans (congrArg some (by kernel_rfl))
  f189 := Tryz.func87.trans (congrArg some (by kernel_rfl))
  f215 := Tryz.func132.trans (congrArg some (by kernel_rfl))
  f216 := Tryz.func117.trans (congrArg some (by kernel_rfl))
  f257 := Tryz.func104.trans (congrArg some (by kernel_rfl))
  f294 := Tryz.func111.trans (congrArg some (by kernel_rfl))
  f295 := Tryz.func112.trans (congrArg some (by kernel_rfl))
  f296 := Tryz.func113.trans (congrArg some (by kernel_rfl))
  f297 := Tryz.func114.trans (congrArg some (by kernel_rfl))
  f298 := Tryz.func115.trans (congrArg some (by kernel_rfl))
  f299 := Tryz.func116.trans (congrArg some (by kernel_rfl))
  f300 := Tryz.func118.trans (congrArg some (by kernel_rfl))
  f301 := Tryz.func119.trans (congrArg some (by kernel_rfl))
  f328 := Tryz.func129.trans (congrArg some (by kernel_rfl))
  f329 := Tryz.func107.trans (congrArg some (by kernel_rfl))
  f330 := Tryz.func108.trans (congrArg some (by kernel_rfl))
  f331 := Tryz.func130.trans (congrArg some (by kernel_rfl))
  f332 := Tryz.func131.trans (congrArg some (by kernel_rfl))
  f343 := Tryz.func136.trans (congrArg some (by kernel_rfl))
  t0 := Tryz.underlying0
  a0 := Tryz.isAgg0
  z0 := Tryz.sizeOf0
  v0 := Tryz.zeroValue0
  t3 := Tryz.underlying3
  a3 := Tryz.isAgg3
  z3 := Tryz.sizeOf3
  v3 := Tryz.zeroValue3
  t4 := Tryz.underlying4
  a4 := Tryz.isAgg4
  z4 := Tryz.sizeOf4
  v4 := Tryz.zeroValue4
  t5 := Tryz.underlying5
  a5 := Tryz.isAgg5
  z5 := Tryz.sizeOf5
  v5 := Tryz.zeroValue5
  t9 := Tryz.underlying9
  a9 := Tryz.isAgg9
  z9 := Tryz.sizeOf9
  v9 := Tryz.zeroValue9
  t28 := Tryz.underlying101
  a28 := Tryz.isAgg101
  z28 := Tryz.sizeOf101
  v28 := Tryz.zeroValue101
  t46 := Tryz.underlying99
  a46 := Tryz.isAgg99
  z46 := Tryz.sizeOf99
  v46 := Tryz.zeroValue99
  t51 := Tryz.underlying55
  a51 := Tryz.isAgg55
  z51 := Tryz.sizeOf55
  v51 := Tryz.zeroValue55
  t53 := Tryz.underlying115
  a53 := Tryz.isAgg115
  z53 := Tryz.sizeOf115
  v53 := Tryz.zeroValue115
  t131 := Tryz.underlying57
  a131 := Tryz.isAgg57
  z131 := Tryz.sizeOf57
  v131 := Tryz.zeroValue57
  t182 := Tryz.underlying107
  a182 := Tryz.isAgg107
  z182 := Tryz.sizeOf107
  v182 := Tryz.zeroValue107
  t183 := Tryz.underlying108
  a183 := Tryz.isAgg108
  z183 := Tryz.sizeOf108
  v183 := Tryz.zeroValue108
  t218 := Tryz.underlying118
  a218 := Tryz.isAgg118
  z218 := Tryz.sizeOf118
  v218 := Tryz.zeroValue118
  t222 := Tryz.underlying122
  a222 := Tryz.isAgg122
  z222 := Tryz.sizeOf122
  v222 := Tryz.zeroValue122
  t228 := Tryz.underlying135
  a228 := Tryz.isAgg135
  z228 := Tryz.sizeOf135
  v228 := Tryz.zeroValue135
  t229 := Tryz.underlying136
  a229 := Tryz.isAgg136
  z229 := Tryz.sizeOf136
  v229 := Tryz.zeroValue136 }
end Go.Proofs
end

section
namespace Go.Proofs
open Go.Shelf Go.RowKit Go.Lib Go.Sort
def encIB (x : Int) : List Value := [.int .i64 x]
def cfIB (x y : Int) : Int := x - y
theorem ltIB (x y : Int) : ltOf cfIB x y = decide (x < y) := by
  unfold ltOf cfIB
  apply decide_eq_decide.2; omega
theorem sort87 (blk off cap : Nat) (d : Array Int) (w : World) (hH : HoldsK encIB 1 w blk off d) (hblk : blk < w.heap.size) (hsz : d.size < 4611686018427387904) :
    Calls Tryz.prog 87 #[.slice (some ⟨blk, off, none⟩) d.size cap] w fun e w' => e = .returned (.tuple #[]) ∧ ∃ d' n os, PermIn 0 d.size d d' ∧ SortedIn (ltOf cfIB) 0 d.size d' ∧ w' = sortWorldK encIB 1 w blk off n d' os := by
  have h := Any.slices_Sort_int Tryz.sortInts blk off cap d.toList w (by simpa using Go.VC.holds_one hH) hblk (by simpa using hsz)
  change Calls Tryz.prog 87 _ _ _ at h
  rw [Array.length_toList] at h
  refine h.mono ?_
  rintro e w' ⟨rfl, n, os, rfl⟩
  have hp := List.mergeSort_perm d.toList fun x y => decide (x ≤ y)
  have hs := List.pairwise_mergeSort (le := fun x y : Int => decide (x ≤ y)) (by intro a b c; simp; omega) (by intro a b; simp; omega) d.toList
  obtain ⟨S, hS⟩ : ∃ S, S = d.toList.mergeSort fun x y => decide (x ≤ y) := ⟨_, rfl⟩
  rw [← hS] at hp hs ⊢
  have hl : S.length = d.size := by rw [hp.length_eq]; simp
  refine ⟨rfl, S.toArray, n, os, ⟨by simp [hl], ?_, ?_⟩, ?_, ?_⟩
  · intro i hi
    have hi : d.size ≤ i := by omega
    rw [getElem!_neg _ i (by simp; omega), getElem!_neg d i (by omega)]
  · rw [Array.extract_eq_self_of_le (by simp; omega), Array.extract_eq_self_of_le (by omega)]
    simpa using hp
  · intro i j _ hij hj
    rw [getElem!_pos _ i (by simp; omega), getElem!_pos _ j (by simp; omega), ltIB]
    have := List.pairwise_iff_getElem.1 hs i j (by omega) (by omega) hij
    simp at this ⊢; exact this
  · unfold sortWorldK putRowK
    rw [Go.VC.putRow_one]; rfl
theorem sort87_none (p : Option Addr) (cap : Nat) (w : World) : Calls Tryz.prog 87 #[.slice p 0 cap] w fun e w' => e = .returned (.tuple #[]) ∧ w' = w := by
  have h := Any.slices_Sort_int_none Tryz.sortInts p cap w
  change Calls Tryz.prog 87 _ _ _ at h
  exact h
end Go.Proofs
end

section
/- The configurations of the functions (printed by gcfg.py). -/
namespace Go.VC.T35
open Go Go.VC
def g2 : Cfg := {tt := tt, n := 1}
def g3 : Cfg := {tt := tt, n := 56, sch := [(5, [0, 2, 1, 3, 4, 5, 6, 7, 8, 10, 11, 12, 9, 13, 14, 15, 16, 17, 18, 20, 21, 19, 22, 23, 24, 25])]}
def g4 : Cfg := {tt := tt, n := 57}
def g5 : Cfg := {tt := tt, n := 86}
def g6 : Cfg := {tt := tt, n := 152}
def g7 : Cfg := {tt := tt, n := 61}
def g8 : Cfg := {tt := tt, n := 86}
def g9 : Cfg := {tt := tt, n := 64}
def g10 : Cfg := {tt := tt, n := 55, sch := [(6, [0, 1, 2, 3, 4, 5, 6, 7, 8, 9, 10, 11, 12, 13, 14, 15, 16, 17, 18, 19, 20, 21, 22, 23, 24, 25, 26, 27, 28, 29, 30, 31, 32, 33, 34, 35, 36, 37])]}
def g11 : Cfg := {tt := tt, n := 7}
def g12 : Cfg := {tt := tt, n := 7}
def g13 : Cfg := {tt := tt, n := 18}
def g14 : Cfg := {tt := tt, n := 27}
def g15 : Cfg := {tt := tt, n := 11}
def g16 : Cfg := {tt := tt, n := 11}
def g17 : Cfg := {tt := tt, n := 29}
def g18 : Cfg := {tt := tt, n := 51, sch := [(5, [0, 1, 3, 4, 2, 5, 6, 7, 8, 9, 10, 11, 12, 13])]}
def g19 : Cfg := {tt := tt, n := 85, cuts := [7, 8]}
def g20 : Cfg := {tt := tt, n := 65, sch := [(9, [0, 1, 2, 3, 4, 5, 6, 7, 8, 9, 10, 11, 12, 13, 14, 15, 16, 17, 18, 19, 20, 21, 22, 23, 24])]}
def g21 : Cfg := {tt := tt, n := 71, sch := [(9, [0, 1, 2, 3, 4, 5, 6, 7, 8, 9, 10, 11, 12, 13, 14, 15, 16, 17, 18, 19, 20, 21, 22, 23, 24])]}
def g22 : Cfg := {tt := tt, n := 19}
def g23 : Cfg := {tt := tt, n := 9}
def g24 : Cfg := {tt := tt, n := 13}
def g25 : Cfg := {tt := tt, n := 13}
def g26 : Cfg := {tt := tt, n := 9}
def g27 : Cfg := {tt := tt, n := 9}
def g28 : Cfg := {tt := tt, n := 15}
def g29 : Cfg := {tt := tt, n := 32}
def g30 : Cfg := {tt := tt, n := 16}
def g31 : Cfg := {tt := tt, n := 12}
def g32 : Cfg := {tt := tt, n := 113, sch := [(5, [0, 1, 2, 3, 4, 5, 6, 7, 8, 9, 10, 11, 12, 13, 14]), (8, [0, 1, 2, 3, 4, 5, 6, 7, 8, 9, 10, 11, 12]), (10, [0, 1, 2, 3, 4, 6, 7, 8, 5, 9, 10, 11]), (16, [0, 1, 2, 3, 4, 5, 6, 7, 8, 9, 10, 11, 12, 13, 14, 15]), (17, [0, 1, 2, 3, 4, 5, 6, 7, 8, 9, 10, 11, 12, 13, 14, 15, 16, 17])], own := [63]}
def g33 : Cfg := {tt := tt, n := 13}
def g34 : Cfg := {tt := tt, n := 26, own := [4], keep := [65]}
def g35 : Cfg := {tt := tt, n := 8}
def g36 : Cfg := {tt := tt, n := 14}
def g37 : Cfg := {tt := tt, n := 26, sch := [(6, [0, 1, 2, 3, 4, 5, 6, 7, 8])]}
def g38 : Cfg := {tt := tt, n := 11}
def g39 : Cfg := {tt := tt, n := 9, sch := [(1, [0, 1, 2, 3, 4, 5, 6])]}
def g40 : Cfg := {tt := tt, n := 11}
def g41 : Cfg := {tt := tt, n := 9, sch := [(1, [0, 1, 2, 3, 4, 5, 6])]}
def g42 : Cfg := {tt := tt, n := 10}
def g43 : Cfg := {tt := tt, n := 7}
def g44 : Cfg := {tt := tt, n := 6}
def g45 : Cfg := {tt := tt, n := 46, own := [9]}
def g46 : Cfg := {tt := tt, n := 35, sch := [(5, [0, 1, 2, 3, 4, 6, 7, 8, 5, 9, 10, 11, 12])], keep := [74], pers := true}
def g47 : Cfg := {tt := tt, n := 20, sch := [(1, [0, 1, 2, 3, 4, 5, 6, 7, 8, 9, 10, 11, 12, 13, 14, 15])]}
def g48 : Cfg := {tt := tt, n := 127, sch := [(7, [0, 1, 2, 3, 4, 5, 6, 7, 8, 9, 10, 11, 12, 13]), (9, [0, 1, 2, 3, 4, 5, 6, 7, 8, 9, 10, 11, 12, 13]), (11, [0, 1, 2, 3, 4, 5, 6, 7, 8, 9, 10, 11, 12, 13]), (12, [0, 1, 2, 3, 4, 6, 7, 8, 5, 9, 10, 11])], own := [10,100,101], cuts := [5]}
def g49 : Cfg := {tt := tt, n := 25}
def g50 : Cfg := {tt := tt, n := 20, own := [5]}
def g51 : Cfg := {tt := tt, n := 29, own := [7]}
def g52 : Cfg := {tt := tt, n := 19}
def g53 : Cfg := {tt := tt, n := 9}
def g54 : Cfg := {tt := tt, n := 10}
def g55 : Cfg := {tt := tt, n := 10}
def g56 : Cfg := {tt := tt, n := 19}
def g57 : Cfg := {tt := tt, n := 17}
def g58 : Cfg := {tt := tt, n := 9}
def g59 : Cfg := {tt := tt, n := 9}
def g60 : Cfg := {tt := tt, n := 14}
def g61 : Cfg := {tt := tt, n := 36, sch := [(8, [0, 1, 2, 3, 4, 5, 6, 7])]}
def g62 : Cfg := {tt := tt, n := 20, sch := [(1, [0, 1, 2, 3, 4, 5, 6, 7, 8, 9, 10, 11, 12, 13, 14, 15])]}
def g63 : Cfg := {tt := tt, n := 13}
def g64 : Cfg := {tt := tt, n := 12}
def g65 : Cfg := {tt := tt, n := 14}
def g66 : Cfg := {tt := tt, n := 10}
def g67 : Cfg := {tt := tt, n := 8}
def g68 : Cfg := {tt := tt, n := 8}
def g69 : Cfg := {tt := tt, n := 9}
def g70 : Cfg := {tt := tt, n := 23, own := [5]}
def g71 : Cfg := {tt := tt, n := 90, sch := [(25, [0, 1, 2, 3, 4, 5, 6, 7, 8, 9, 10, 11, 12, 13])], own := [44,12], keep := [87]}
def g72 : Cfg := {tt := tt, n := 5}
def g73 : Cfg := {tt := tt, n := 8}
def g74 : Cfg := {tt := tt, n := 33, sch := [(5, [0, 1, 2, 3, 4, 5, 6, 7])]}
def g75 : Cfg := {tt := tt, n := 8, own := [2,5]}
def g76 : Cfg := {tt := tt, n := 5}
def g77 : Cfg := {tt := tt, n := 12}
def g78 : Cfg := {tt := tt, n := 11, sch := [(1, [0, 1, 2, 3, 4, 5, 6, 7, 8])]}
def g79 : Cfg := {tt := tt, n := 10}
def g80 : Cfg := {tt := tt, n := 10}
def g81 : Cfg := {tt := tt, n := 19}
def g82 : Cfg := {tt := tt, n := 6}
def g83 : Cfg := {tt := tt, n := 79, sch := [(14, [0, 1, 2, 3, 4, 5, 6, 7, 8, 9, 10, 11, 12]), (15, [0, 1, 2, 3, 4, 5, 6, 7, 8, 9, 10, 11, 12, 13, 14])], own := [3], keep := [91]}
def g84 : Cfg := {tt := tt, n := 148, sch := [(17, [0, 1, 2, 3, 4, 5, 6, 7, 8, 9, 10, 11, 12, 13, 14, 15, 16])]}
def g85 : Cfg := {tt := tt, n := 8}
def g86 : Cfg := {tt := tt, n := 8}
def g87 : Cfg := {tt := tt, n := 11}
def g88 : Cfg := {tt := tt, n := 5}
def g89 : Cfg := {tt := tt, n := 3}
def g90 : Cfg := {tt := tt, n := 8}
def g91 : Cfg := {tt := tt, n := 14}
def g92 : Cfg := {tt := tt, n := 10}
def g93 : Cfg := {tt := tt, n := 53, sch := [(4, [0, 1, 2, 3, 4, 5, 6, 7, 8, 9, 10, 11, 12, 13, 14, 15, 16]), (6, [0, 1, 2, 3, 4, 5, 6, 7, 8, 9, 10, 11, 12, 13, 14, 15, 16, 17])]}
def g94 : Cfg := {tt := tt, n := 60, sch := [(10, [0, 1, 2, 3, 4, 5, 6, 7, 8, 9, 10, 11, 12, 13, 14, 15, 16, 17, 18, 19])]}
def g95 : Cfg := {tt := tt, n := 67, sch := [(10, [0, 1, 2, 3, 4, 5, 6, 7, 8, 9, 10, 11, 12, 13, 14, 15, 16, 17, 18, 19])]}
def g96 : Cfg := {tt := tt, n := 63}
def g97 : Cfg := {tt := tt, n := 34, sch := [(3, [0, 1, 2, 3, 4, 5, 6, 7, 8, 9, 10, 11, 12, 13, 14, 15])]}
def g98 : Cfg := {tt := tt, n := 141, sch := [(5, [0, 1, 2, 3, 4, 5, 6, 7, 8, 9, 10, 11, 12, 13, 14, 15, 16, 17]), (11, [0, 1, 2, 3, 4, 5, 6, 7, 8, 9, 10, 11, 12, 13, 14, 15, 16, 17]), (16, [0, 1, 2, 3, 4, 5, 6, 7, 8, 9, 10, 11, 12]), (17, [0, 1, 2, 3, 4, 5, 6, 7, 8, 9, 10, 11, 12, 13, 14, 15, 16, 17]), (22, [0, 1, 2, 3, 4, 5, 6, 7, 8, 9, 10, 11, 12]), (23, [0, 1, 2, 3, 4, 5, 6, 7, 8, 9, 10, 11, 12, 13, 14, 15, 16, 17])]}
def g99 : Cfg := {tt := tt, n := 90, sch := [(1, [0, 1, 2, 3, 4, 5, 6, 7, 8, 9, 10, 11, 12, 13, 14, 15]), (3, [0, 1, 2, 3, 4, 5, 6, 7, 8, 9, 10, 11, 12, 13, 14, 15, 16]), (5, [0, 1, 2, 3, 4, 5, 6, 7, 8, 9, 10, 11, 12, 13, 14, 15]), (8, [0, 1, 2, 3, 4, 5, 6, 7, 8, 9, 10, 11, 12, 13, 14, 15])]}
def g100 : Cfg := {tt := tt, n := 178, sch := [(1, [0, 1, 2, 3, 4, 5, 6, 7, 8, 9, 10, 11, 12, 13, 14, 15]), (3, [0, 1, 2, 3, 4, 5, 6, 7, 8, 9, 10, 11, 12, 13, 14, 15]), (5, [0, 1, 2, 3, 4, 5, 6, 7, 8, 9, 10, 11, 12, 13, 14, 15, 16]), (8, [0, 1, 2, 3, 4, 5, 6, 7, 8, 9, 10, 11, 12, 13, 14, 15]), (10, [0, 1, 2, 3, 4, 5, 6, 7, 8, 9, 10, 11, 12, 13, 14, 15]), (13, [0, 1, 2, 3, 4, 5, 6, 7, 8, 9, 10, 11, 12, 13, 14, 15]), (15, [0, 1, 2, 3, 4, 5, 6, 7, 8, 9, 10, 11, 12, 13, 14, 15, 16]), (18, [0, 1, 2, 3, 4, 5, 6, 7, 8, 9, 10, 11, 12, 13, 14, 15]), (21, [0, 1, 2, 3, 4, 5, 6, 7, 8, 9, 10, 11, 12, 13, 14, 15])]}
def g101 : Cfg := {tt := tt, n := 19}
def g102 : Cfg := {tt := tt, n := 25}
def g104 : Cfg := {tt := tt, n := 134, sch := [(17, [0, 1, 2, 3, 4, 5, 6, 7, 8, 9, 10, 11, 12, 13, 14])]}
def g105 : Cfg := {tt := tt, n := 148, sch := [(17, [0, 1, 2, 3, 4, 5, 6, 7, 8, 9, 10, 11, 12, 13, 14, 15, 16])]}
def g106 : Cfg := {tt := tt, n := 82, sch := [(3, [0, 1, 2, 3, 4, 5, 6, 7, 8, 9, 10, 11, 12, 13, 14, 15, 16, 17, 18, 19, 20, 21]), (5, [0, 1, 2, 3, 4, 5, 6, 7, 8, 9, 10, 11, 12, 13, 14, 15]), (6, [0, 1, 2, 3, 4, 5, 6, 7, 8, 9, 10, 11, 12, 13, 14, 15, 16, 17, 18, 19, 20, 21, 22, 23])]}
def g107 : Cfg := {tt := tt, n := 7}
def g108 : Cfg := {tt := tt, n := 33, sch := [(1, [0, 1, 2, 3, 4, 5, 6, 7, 8, 9]), (2, [0, 1, 2, 3, 4, 5, 6, 7, 8, 9]), (3, [0, 1, 2, 3, 4, 5, 6, 7, 8, 9])]}
def g109 : Cfg := {tt := tt, n := 18}
def g110 : Cfg := {tt := tt, n := 41}
def g111 : Cfg := {tt := tt, n := 49, sch := [(4, [0, 1, 2, 3, 4, 5, 6, 7, 8, 9, 10, 11, 12, 13, 14]), (6, [0, 1, 2, 3, 4, 5, 6, 7, 8, 9, 10, 11, 12, 13, 14, 15, 16, 17])]}
def g112 : Cfg := {tt := tt, n := 56, sch := [(10, [0, 1, 2, 3, 4, 5, 6, 7, 8, 9, 10, 11, 12, 13, 14, 15, 16, 17, 18, 19])]}
def g113 : Cfg := {tt := tt, n := 65, sch := [(10, [0, 1, 2, 3, 4, 5, 6, 7, 8, 9, 10, 11, 12, 13, 14, 15, 16, 17, 18, 19])]}
def g114 : Cfg := {tt := tt, n := 57}
def g115 : Cfg := {tt := tt, n := 32, sch := [(3, [0, 1, 2, 3, 4, 5, 6, 7, 8, 9, 10, 11, 12, 13, 14, 15])]}
def g116 : Cfg := {tt := tt, n := 133, sch := [(5, [0, 1, 2, 3, 4, 5, 6, 7, 8, 9, 10, 11, 12, 13, 14, 15]), (11, [0, 1, 2, 3, 4, 5, 6, 7, 8, 9, 10, 11, 12, 13, 14, 15, 16, 17]), (16, [0, 1, 2, 3, 4, 5, 6, 7, 8, 9, 10]), (17, [0, 1, 2, 3, 4, 5, 6, 7, 8, 9, 10, 11, 12, 13, 14, 15, 16, 17]), (22, [0, 1, 2, 3, 4, 5, 6, 7, 8, 9, 10]), (23, [0, 1, 2, 3, 4, 5, 6, 7, 8, 9, 10, 11, 12, 13, 14, 15, 16, 17])]}
def g117 : Cfg := {tt := tt, n := 17}
def g118 : Cfg := {tt := tt, n := 84, sch := [(1, [0, 1, 2, 3, 4, 5, 6, 7, 8, 9, 10, 11, 12, 13, 14, 15]), (3, [0, 1, 2, 3, 4, 5, 6, 7, 8, 9, 10, 11, 12, 13, 14]), (5, [0, 1, 2, 3, 4, 5, 6, 7, 8, 9, 10, 11, 12, 13]), (8, [0, 1, 2, 3, 4, 5, 6, 7, 8, 9, 10, 11, 12, 13, 14, 15])]}
def g119 : Cfg := {tt := tt, n := 168, sch := [(1, [0, 1, 2, 3, 4, 5, 6, 7, 8, 9, 10, 11, 12, 13, 14, 15]), (3, [0, 1, 2, 3, 4, 5, 6, 7, 8, 9, 10, 11, 12, 13]), (5, [0, 1, 2, 3, 4, 5, 6, 7, 8, 9, 10, 11, 12, 13, 14]), (8, [0, 1, 2, 3, 4, 5, 6, 7, 8, 9, 10, 11, 12, 13, 14, 15]), (10, [0, 1, 2, 3, 4, 5, 6, 7, 8, 9, 10, 11, 12, 13, 14, 15]), (13, [0, 1, 2, 3, 4, 5, 6, 7, 8, 9, 10, 11, 12, 13]), (15, [0, 1, 2, 3, 4, 5, 6, 7, 8, 9, 10, 11, 12, 13, 14]), (18, [0, 1, 2, 3, 4, 5, 6, 7, 8, 9, 10, 11, 12, 13, 14, 15]), (21, [0, 1, 2, 3, 4, 5, 6, 7, 8, 9, 10, 11, 12, 13, 14, 15])]}
def g120 : Cfg := {tt := tt, n := 53, sch := [(4, [0, 1, 2, 3, 4, 5, 6, 7, 8, 9, 10, 11, 12, 13, 14, 15, 16]), (6, [0, 1, 2, 3, 4, 5, 6, 7, 8, 9, 10, 11, 12, 13, 14, 15, 16, 17])]}
def g121 : Cfg := {tt := tt, n := 60, sch := [(10, [0, 1, 2, 3, 4, 5, 6, 7, 8, 9, 10, 11, 12, 13, 14, 15, 16, 17, 18, 19])]}
def g122 : Cfg := {tt := tt, n := 67, sch := [(10, [0, 1, 2, 3, 4, 5, 6, 7, 8, 9, 10, 11, 12, 13, 14, 15, 16, 17, 18, 19])]}
def g123 : Cfg := {tt := tt, n := 63}
def g124 : Cfg := {tt := tt, n := 34, sch := [(3, [0, 1, 2, 3, 4, 5, 6, 7, 8, 9, 10, 11, 12, 13, 14, 15])]}
def g125 : Cfg := {tt := tt, n := 141, sch := [(5, [0, 1, 2, 3, 4, 5, 6, 7, 8, 9, 10, 11, 12, 13, 14, 15, 16, 17]), (11, [0, 1, 2, 3, 4, 5, 6, 7, 8, 9, 10, 11, 12, 13, 14, 15, 16, 17]), (16, [0, 1, 2, 3, 4, 5, 6, 7, 8, 9, 10, 11, 12]), (17, [0, 1, 2, 3, 4, 5, 6, 7, 8, 9, 10, 11, 12, 13, 14, 15, 16, 17]), (22, [0, 1, 2, 3, 4, 5, 6, 7, 8, 9, 10, 11, 12]), (23, [0, 1, 2, 3, 4, 5, 6, 7, 8, 9, 10, 11, 12, 13, 14, 15, 16, 17])]}
def g126 : Cfg := {tt := tt, n := 90, sch := [(1, [0, 1, 2, 3, 4, 5, 6, 7, 8, 9, 10, 11, 12, 13, 14, 15]), (3, [0, 1, 2, 3, 4, 5, 6, 7, 8, 9, 10, 11, 12, 13, 14, 15, 16]), (5, [0, 1, 2, 3, 4, 5, 6, 7, 8, 9, 10, 11, 12, 13, 14, 15]), (8, [0, 1, 2, 3, 4, 5, 6, 7, 8, 9, 10, 11, 12, 13, 14, 15])]}
def g127 : Cfg := {tt := tt, n := 178, sch := [(1, [0, 1, 2, 3, 4, 5, 6, 7, 8, 9, 10, 11, 12, 13, 14, 15]), (3, [0, 1, 2, 3, 4, 5, 6, 7, 8, 9, 10, 11, 12, 13, 14, 15]), (5, [0, 1, 2, 3, 4, 5, 6, 7, 8, 9, 10, 11, 12, 13, 14, 15, 16]), (8, [0, 1, 2, 3, 4, 5, 6, 7, 8, 9, 10, 11, 12, 13, 14, 15]), (10, [0, 1, 2, 3, 4, 5, 6, 7, 8, 9, 10, 11, 12, 13, 14, 15]), (13, [0, 1, 2, 3, 4, 5, 6, 7, 8, 9, 10, 11, 12, 13, 14, 15]), (15, [0, 1, 2, 3, 4, 5, 6, 7, 8, 9, 10, 11, 12, 13, 14, 15, 16]), (18, [0, 1, 2, 3, 4, 5, 6, 7, 8, 9, 10, 11, 12, 13, 14, 15]), (21, [0, 1, 2, 3, 4, 5, 6, 7, 8, 9, 10, 11, 12, 13, 14, 15])]}
def g128 : Cfg := {tt := tt, n := 32, sch := [(1, [0, 1, 2, 3, 4, 5, 6, 7, 8, 9, 10])]}
def g129 : Cfg := {tt := tt, n := 76, sch := [(3, [0, 1, 2, 3, 4, 5, 6, 7, 8, 9, 10, 11, 12, 13, 14, 15, 16, 17, 18, 19]), (5, [0, 1, 2, 3, 4, 5, 6, 7, 8, 9, 10, 11, 12, 13]), (6, [0, 1, 2, 3, 4, 5, 6, 7, 8, 9, 10, 11, 12, 13, 14, 15, 16, 17, 18, 19, 20, 21, 22, 23])]}
def g130 : Cfg := {tt := tt, n := 15}
def g131 : Cfg := {tt := tt, n := 36}
def g132 : Cfg := {tt := tt, n := 6}
def g133 : Cfg := {tt := tt, n := 82, sch := [(3, [0, 1, 2, 3, 4, 5, 6, 7, 8, 9, 10, 11, 12, 13, 14, 15, 16, 17, 18, 19, 20, 21]), (5, [0, 1, 2, 3, 4, 5, 6, 7, 8, 9, 10, 11, 12, 13, 14, 15]), (6, [0, 1, 2, 3, 4, 5, 6, 7, 8, 9, 10, 11, 12, 13, 14, 15, 16, 17, 18, 19, 20, 21, 22, 23])]}
def g134 : Cfg := {tt := tt, n := 18}
def g135 : Cfg := {tt := tt, n := 41}
def g136 : Cfg := {tt := tt, n := 28, sch := [(1, [0, 1, 2, 3, 4, 5, 6, 7, 8])]}
def g137 : Cfg := {tt := tt, n := 32, sch := [(1, [0, 1, 2, 3, 4, 5, 6, 7, 8, 9, 10])]}
end Go.VC.T35
end

section
/- Counting places: what constraint.combine computes. -/
namespace Go.VC
def cLe1 (X : List (Int × Int)) (p : Int) : Nat := X.countP fun x => decide (x.1 ≤ p)
def cLe2 (X : List (Int × Int)) (p : Int) : Nat := X.countP fun x => decide (x.2 ≤ p)
def cEq1 (X : List (Int × Int)) (p : Int) : Nat := X.countP fun x => decide (x.1 = p)
def cEq2 (X : List (Int × Int)) (p : Int) : Nat := X.countP fun x => decide (x.2 = p)
/-- how many spans hold a place -/
def inC (X : List (Int × Int)) (p : Int) : Nat := X.countP fun x => decide (x.1 ≤ p ∧ p < x.2)
theorem inC_eq {X : List (Int × Int)} (h : ∀ x ∈ X, x.1 < x.2) (p : Int) : (inC X p : Int) = cLe1 X p - cLe2 X p := by
  induction X with
  | nil => rfl
  | cons x X ih =>
    have hx := h x (by simp)
    have := ih fun y hy => h y (by simp [hy])
    simp only [inC, cLe1, cLe2, List.countP_cons, decide_eq_true_eq] at this ⊢
    repeat' split
    all_goals omega
/-- no end of a span between two numbers -/
def Free (X : List (Int × Int)) (a b : Int) : Prop := ∀ x ∈ X, ¬ (a < x.1 ∧ x.1 < b) ∧ ¬ (a < x.2 ∧ x.2 < b)
theorem cLe_free {X : List (Int × Int)} {a b p : Int} (h : Free X a b) (h1 : a ≤ p) (h2 : p < b) : cLe1 X p = cLe1 X a ∧ cLe2 X p = cLe2 X a := by
  constructor
  · refine List.countP_congr fun x hx => ?_
    have := (h x hx).1
    simp only [decide_eq_true_eq]; omega
  · refine List.countP_congr fun x hx => ?_
    have := (h x hx).2
    simp only [decide_eq_true_eq]; omega
theorem cLe_step {X : List (Int × Int)} {a b : Int} (h : Free X a b) (hab : a < b) : cLe1 X b = cLe1 X a + cEq1 X b ∧ cLe2 X b = cLe2 X a + cEq2 X b := by
  induction X with
  | nil => exact ⟨rfl, rfl⟩
  | cons x X ih =>
    obtain ⟨i1, i2⟩ := ih fun y hy => h y (by simp [hy])
    have := h x (by simp)
    simp only [cLe1, cLe2, cEq1, cEq2, List.countP_cons, decide_eq_true_eq] at i1 i2 ⊢
    constructor
    · repeat' split
      all_goals omega
    · repeat' split
      all_goals omega
theorem cLe_first {X : List (Int × Int)} {a : Int} (h : ∀ x ∈ X, a ≤ x.1 ∧ a ≤ x.2) : cLe1 X a = cEq1 X a ∧ cLe2 X a = cEq2 X a := by
  constructor
  · refine List.countP_congr fun x hx => ?_
    have := h x hx
    simp only [decide_eq_true_eq]; omega
  · refine List.countP_congr fun x hx => ?_
    have := h x hx
    simp only [decide_eq_true_eq]; omega
theorem cLe_bound {X : List (Int × Int)} {a : Int} : cLe1 X a ≤ X.length ∧ cLe2 X a ≤ X.length := ⟨List.countP_le_length, List.countP_le_length⟩
theorem cEq_bound {X : List (Int × Int)} {a : Int} : cEq1 X a ≤ X.length ∧ cEq2 X a ≤ X.length := ⟨List.countP_le_length, List.countP_le_length⟩

/-! the map of changes -/
def getM (m : List (Int × Int)) (k : Int) : Int := ((m.find? fun x => x.1 == k).map (·.2)).getD 0
def setM (k v : Int) : List (Int × Int) → List (Int × Int)
  | [] => [(k, v)]
  | x :: m => if x.1 = k then (k, v) :: m else x :: setM k v m
theorem getM_set {m : List (Int × Int)} {k v q : Int} : getM (setM k v m) q = if q = k then v else getM m q := by
  induction m with
  | nil =>
    simp only [setM, getM, List.find?_cons, List.find?_nil]
    by_cases h : q = k
    · subst h; simp
    · have : (k == q) = false := by simp; exact fun e => h e.symm
      simp [this, h]
  | cons x m ih =>
    simp only [setM]
    split
    · rename_i hx
      by_cases h : q = k
      · subst h; simp [getM]
      · have h1 : (k == q) = false := by simp; exact fun e => h e.symm
        have h2 : (x.1 == q) = false := by simp; rw [hx]; exact fun e => h e.symm
        simp [getM, h1, h2, h]
    · rename_i hx
      by_cases h1 : (x.1 == q) = true
      · have : x.1 = q := by simpa using h1
        have h2 : ¬ q = k := fun e => hx (by rw [this, e])
        simp [getM, h1, h2]
      · have h1 : (x.1 == q) = false := by simpa using h1
        have : getM (x :: setM k v m) q = getM (setM k v m) q := by simp [getM, h1]
        rw [this, ih]
        simp [getM, h1]
theorem mem_setM {m : List (Int × Int)} {k v q : Int} : q ∈ (setM k v m).map (·.1) ↔ q = k ∨ q ∈ m.map (·.1) := by
  induction m with
  | nil => simp [setM]
  | cons x m ih =>
    simp only [setM]
    split
    · rename_i hx; simp [hx]
    · simp only [List.map_cons, List.mem_cons, ih]
      constructor
      · rintro (h | h | h) <;> simp [h]
      · rintro (h | h | h) <;> simp [h]
theorem nodup_setM {m : List (Int × Int)} {k v : Int} (h : (m.map (·.1)).Nodup) : ((setM k v m).map (·.1)).Nodup := by
  induction m with
  | nil => simp [setM]
  | cons x m ih =>
    simp only [List.map_cons, List.nodup_cons] at h
    simp only [setM]
    split
    · rename_i hx; simp only [List.map_cons, List.nodup_cons, ← hx]; exact h
    · rename_i hx
      simp only [List.map_cons, List.nodup_cons]
      refine ⟨fun hm => ?_, ih h.2⟩
      rcases mem_setM.1 hm with h' | h'
      · exact hx h'
      · exact h.1 h'
theorem length_setM {m : List (Int × Int)} {k v : Int} : (setM k v m).length ≤ m.length + 1 := by
  induction m with
  | nil => simp [setM]
  | cons x m ih => simp only [setM]; split <;> simp <;> omega
theorem find_key {m : List (Int × Int)} {k : Int} (h : k ∈ m.map (·.1)) : ∃ v, m.find? (fun x => x.1 == k) = some (k, v) := by
  obtain ⟨x, hx, rfl⟩ := List.mem_map.1 h
  cases hf : m.find? fun y => y.1 == x.1 with
  | none => rw [List.find?_eq_none] at hf; have := hf x hx; simp at this
  | some y =>
    have := List.find?_some hf
    exact ⟨y.2, by rw [show y = (x.1, y.2) from Prod.ext (by simpa using this) rfl]⟩
theorem Std_mset {m : List (Int × Int)} {k v : Int} : Std.mset (encL encX m) (.int k) [.int v] = encL encX (setM k v m) := by
  simp only [Std, std, encL, rowsD]
  congr 1
  induction m with
  | nil => rfl
  | cons x m ih =>
    have hk : hasKey (.int k) (encX x) = (k == x.1) := rfl
    simp only [List.map_cons, setKey, setM]
    rw [hk]
    by_cases h : k = x.1
    · rw [if_pos (by simp [h]), if_pos h.symm]; rfl
    · rw [if_neg (by simp [h]), if_neg (fun e => h e.symm), List.map_cons, ← ih]
theorem Std_mhas {m : List (Int × Int)} {k : Int} : Std.mhas (encL encX m) (.int k) = m.any fun x => x.1 == k := by
  simp only [Std, std, encL, rowsD, List.any_map]
  congr 1
  funext x
  simp only [Function.comp, hasKey, encX, keyEq]
  rw [Bool.eq_iff_iff, beq_iff_eq, beq_iff_eq]; exact eq_comm
theorem Std_mget {m : List (Int × Int)} {k : Int} : Std.asInt (Std.mget (encL encX m) (.int k) 0) = getM m k := by
  simp only [Std, std, encL, rowsD, getM]
  induction m with
  | nil => rfl
  | cons x m ih =>
    simp only [List.map_cons, List.find?_cons, hasKey, encX, keyEq]
    by_cases h : k = x.1
    · have h1 : (k == x.1) = true := by simp [h]
      have h2 : (x.1 == k) = true := by simp [h]
      simp [h1, h2]
    · have h1 : (k == x.1) = false := by simp [h]
      have h2 : (x.1 == k) = false := by simp; exact fun e => h e.symm
      simp only [h1, h2]; exact ih
theorem getM_none {m : List (Int × Int)} {k : Int} (h : (m.any fun x => x.1 == k) = false) : getM m k = 0 := by
  have : m.find? (fun x => x.1 == k) = none := by
    rw [List.find?_eq_none]; intro x hx; rw [List.any_eq_false] at h; exact h x hx
  simp [getM, this]
/-- the map, when the spans X have been entered -/
structure Chg (X m : List (Int × Int)) : Prop where
  nd : (m.map (·.1)).Nodup
  get : ∀ q, getM m q = cEq1 X q - cEq2 X q
  keys : ∀ q, q ∈ m.map (·.1) ↔ q = 0 ∨ q = 1000000 ∨ ∃ x ∈ X, q = x.1 ∨ q = x.2
  len : m.length ≤ 2 + 2 * X.length
theorem Chg.add {X m : List (Int × Int)} (h : Chg X m) (x : (Int × Int)) : Chg (X ++ [x]) (setM x.2 (getM (setM x.1 (getM m x.1 + 1) m) x.2 - 1) (setM x.1 (getM m x.1 + 1) m)) := by
  refine ⟨nodup_setM (nodup_setM h.nd), fun q => ?_, fun q => ?_, ?_⟩
  · have hg := h.get q
    have hg1 := h.get x.1
    have hg2 := h.get x.2
    have e1 : cEq1 (X ++ [x]) q = cEq1 X q + if x.1 = q then 1 else 0 := by simp [cEq1, List.countP_append, List.countP_cons]
    have e2 : cEq2 (X ++ [x]) q = cEq2 X q + if x.2 = q then 1 else 0 := by simp [cEq2, List.countP_append, List.countP_cons]
    rw [e1, e2]
    simp only [getM_set]
    by_cases h1 : q = x.1 <;> by_cases h2 : q = x.2
    · subst h1; simp [← h2]; omega
    · subst h1
      have : ¬ x.2 = x.1 := fun e => h2 e.symm
      simp [h2, this]; omega
    · subst h2
      have : ¬ x.1 = x.2 := fun e => h1 e.symm
      simp [h1, this]; omega
    · have a : ¬ x.1 = q := fun e => h1 e.symm
      have b : ¬ x.2 = q := fun e => h2 e.symm
      simp [h1, h2, a, b]; omega
  · rw [mem_setM, mem_setM, h.keys]
    simp only [List.mem_append, List.mem_singleton]
    constructor
    · rintro (h | h | h | h | ⟨y, hy, h⟩)
      · exact .inr (.inr ⟨x, .inr rfl, .inr h⟩)
      · exact .inr (.inr ⟨x, .inr rfl, .inl h⟩)
      · exact .inl h
      · exact .inr (.inl h)
      · exact .inr (.inr ⟨y, .inl hy, h⟩)
    · rintro (h | h | ⟨y, hy | rfl, h⟩)
      · exact .inr (.inr (.inl h))
      · exact .inr (.inr (.inr (.inl h)))
      · exact .inr (.inr (.inr (.inr ⟨y, hy, h⟩)))
      · rcases h with h | h
        · exact .inr (.inl h)
        · exact .inl h
  · have a := length_setM (m := m) (k := x.1) (v := getM m x.1 + 1)
    have b := length_setM (m := setM x.1 (getM m x.1 + 1) m) (k := x.2) (v := getM (setM x.1 (getM m x.1 + 1) m) x.2 - 1)
    have := h.len
    simp only [List.length_append, List.length_singleton]; omega
theorem Chg.start : Chg [] (setM 1000000 0 (setM 0 0 [])) := by
  refine ⟨by decide, fun q => ?_, fun q => ?_, by decide⟩
  · simp only [getM_set]
    split
    · rfl
    · split
      · rfl
      · rfl
  · rw [mem_setM, mem_setM]; simp
    constructor
    · rintro (h | h)
      · exact .inr h
      · exact .inl h
    · rintro (h | h)
      · exact .inr h
      · exact .inl h

/-! the sorted ends -/
structure Ends (X : List (Int × Int)) (S : List Int) : Prop where
  le : ∀ i j (hi : i < S.length) (hj : j < S.length), i < j → S[i] < S[j]
  mem : ∀ q, q ∈ S ↔ q = 0 ∨ q = 1000000 ∨ ∃ x ∈ X, q = x.1 ∨ q = x.2
  ok : ∀ x ∈ X, 0 ≤ x.1 ∧ x.1 < x.2 ∧ x.2 ≤ 1000000
theorem Ends.range {X : List (Int × Int)} {S : List Int} (h : Ends X S) {q : Int} (hq : q ∈ S) : 0 ≤ q ∧ q ≤ 1000000 := by
  rcases (h.mem q).1 hq with rfl | rfl | ⟨x, hx, h'⟩
  · omega
  · omega
  · have := h.ok x hx; omega
theorem Ends.two {X : List (Int × Int)} {S : List Int} (h : Ends X S) : 2 ≤ S.length ∧ (∀ h0 : 0 < S.length, S[0] = 0) ∧ (∀ h0 : S.length - 1 < S.length, S[S.length - 1] = 1000000) := by
  obtain ⟨i, hi, h0⟩ := List.mem_iff_getElem.1 ((h.mem 0).2 (.inl rfl))
  obtain ⟨j, hj, h1⟩ := List.mem_iff_getElem.1 ((h.mem 1000000).2 (.inr (.inl rfl)))
  have hij : i ≠ j := by intro e; subst e; omega
  refine ⟨by omega, fun hl => ?_, fun hl => ?_⟩
  · rcases Nat.eq_zero_or_pos i with h' | h'
    · subst h'; exact h0
    · have := h.le 0 i hl hi h'
      have := (h.range (List.getElem_mem hl)).1
      omega
  · rcases Nat.lt_or_ge j (S.length - 1) with h' | h'
    · have := h.le j (S.length - 1) hj hl h'
      have := (h.range (List.getElem_mem hl)).2
      omega
    · have : j = S.length - 1 := by omega
      subst this; exact h1
theorem Ends.free {X : List (Int × Int)} {S : List Int} (h : Ends X S) {i : Nat} (hi : i + 1 < S.length) : Free X S[i] S[i+1] := by
  have key : ∀ q, q ∈ S → ¬ (S[i] < q ∧ q < S[i+1]) := by
    intro q hq hc
    obtain ⟨j, hj, rfl⟩ := List.mem_iff_getElem.1 hq
    rcases Nat.lt_trichotomy j i with h' | h' | h'
    · have := h.le j i hj (by omega) h'; omega
    · subst h'; omega
    · rcases Nat.lt_trichotomy j (i+1) with h'' | h'' | h''
      · omega
      · subst h''; omega
      · have := h.le (i+1) j hi hj h''; omega
  intro x hx
  exact ⟨key _ ((h.mem _).2 (.inr (.inr ⟨x, hx, .inl rfl⟩))), key _ ((h.mem _).2 (.inr (.inr ⟨x, hx, .inr rfl⟩)))⟩
/-- the count, when i ends have been passed; the spans that were kept -/
structure Swp (X : List (Int × Int)) (S : List Int) (kp : Int → Bool) (i : Nat) (c : Int) (o : List (Int × Int)) : Prop where
  cnt : ∀ h : i < S.length, c + (cEq1 X S[i] - cEq2 X S[i]) = cLe1 X S[i] - cLe2 X S[i]
  out : ∀ (h : i < S.length) p, mem' o p ↔ 0 ≤ p ∧ p < S[i] ∧ kp (inC X p) = true
theorem Swp.start {X : List (Int × Int)} {S : List Int} {kp : Int → Bool} (h : Ends X S) : Swp X S kp 0 0 [] := by
  obtain ⟨a, b, _⟩ := h.two
  refine ⟨fun h0 => ?_, fun h0 p => ?_⟩
  · have e := b h0
    have := cLe_first (X := X) (a := S[0]) fun x hx => by have := h.ok x hx; omega
    omega
  · have e := b h0
    rw [mem'_nil]; constructor
    · exact False.elim
    · rintro ⟨h1, h2, _⟩; omega
theorem Swp.step {X : List (Int × Int)} {S : List Int} {kp : Int → Bool} {i : Nat} {c c' : Int} {o : List (Int × Int)} (h : Ends X S) (hs : Swp X S kp i c o) (hi : i + 1 < S.length) (hc : c' = c + (cEq1 X S[i] - cEq2 X S[i])) :
    Swp X S kp (i+1) c' (o ++ if kp c' = true then [(S[i], S[i+1])] else []) := by
  have h1 := hs.cnt (by omega)
  have hf := h.free hi
  have hlt := h.le i (i+1) (by omega) hi (by omega)
  have hc' : c' = cLe1 X S[i] - cLe2 X S[i] := by omega
  refine ⟨fun h2 => ?_, fun h2 p => ?_⟩
  · have := cLe_step hf hlt; omega
  · have hin : S[i] ≤ p → p < S[i+1] → (inC X p : Int) = c' := by
      intro h3 h4
      have := cLe_free hf h3 h4
      rw [inC_eq (fun x hx => (h.ok x hx).2.1), this.1, this.2, hc']
    have h0 : 0 ≤ S[i] := (h.range (List.getElem_mem _)).1
    rw [mem'_append, hs.out (by omega) p]
    by_cases hk : kp c' = true
    · rw [if_pos hk, mem'_cons, mem'_nil, or_false]
      constructor
      · rintro (⟨a, b, c⟩ | ⟨a, b⟩)
        · exact ⟨a, by omega, c⟩
        · simp only at a b; exact ⟨by omega, b, by rw [hin a b]; exact hk⟩
      · rintro ⟨a, b, c⟩
        by_cases hp : p < S[i]
        · exact .inl ⟨a, hp, c⟩
        · exact .inr ⟨by simp only; omega, b⟩
    · rw [if_neg hk, mem'_nil, or_false]
      constructor
      · rintro ⟨a, b, c⟩; exact ⟨a, by omega, c⟩
      · rintro ⟨a, b, c⟩
        by_cases hp : p < S[i]
        · exact ⟨a, hp, c⟩
        · rw [hin (by omega) b] at c; exact (hk c).elim
theorem Swp.done {X : List (Int × Int)} {S : List Int} {kp : Int → Bool} {i : Nat} {c : Int} {o : List (Int × Int)} (h : Ends X S) (hs : Swp X S kp i c o) (hi : i + 1 = S.length) (p : Int) :
    pl (canon o) p ↔ 0 ≤ p ∧ p < 1000000 ∧ kp (inC X p) = true := by
  obtain ⟨_, _, e⟩ := h.two
  have e1 : S[i] = 1000000 := by have := e (by omega); simp only [show S.length - 1 = i by omega] at this; exact this
  rw [pl_canon, pl_iff, hs.out (by omega) p, e1]
  constructor
  · rintro ⟨a, b, _, _, c⟩; exact ⟨a, b, c⟩
  · rintro ⟨a, b, c⟩; exact ⟨a, b, a, b, c⟩
theorem ends_of {X m : List (Int × Int)} {S : List Int} (hm : Chg X m) (hX : ∀ x ∈ X, 0 ≤ x.1 ∧ x.1 < x.2 ∧ x.2 ≤ 1000000) (hp : S.Perm (m.map (·.1))) (hs : ∀ i j (hi : i < S.length) (hj : j < S.length), i < j → S[i] ≤ S[j]) : Ends X S := by
  refine ⟨fun i j hi hj hij => ?_, fun q => by rw [hp.mem_iff, hm.keys], hX⟩
  have hnd : S.Nodup := hp.symm.nodup hm.nd
  have h1 := hs i j hi hj hij
  have h2 : S[i] ≠ S[j] := fun e => by
    have := (List.getElem_inj hnd).1 e
    omega
  omega
/-- in a canonical list a place lies once or not at all -/
theorem inC_can {a : Int} {c : List (Int × Int)} (h : CanF a c) (p : Int) : (mem' c p → inC c p = 1) ∧ (¬ mem' c p → inC c p = 0) := by
  induction c generalizing a with
  | nil => exact ⟨fun h => (mem'_nil.1 h).elim, fun _ => rfl⟩
  | cons x c ih =>
    obtain ⟨i1, i2⟩ := ih h.2.2.2
    have e : inC (x :: c) p = inC c p + if x.1 ≤ p ∧ p < x.2 then 1 else 0 := by
      simp only [inC, List.countP_cons, decide_eq_true_eq]
    have hg : mem' c p → x.2 < p := fun hp => h.2.2.2.gt hp
    rw [e]
    constructor
    · intro hm
      rcases mem'_cons.1 hm with hm | hm
      · rw [if_pos hm, i2 (fun h' => by have := hg h'; omega)]
      · rw [if_neg (by have := hg hm; omega), i1 hm]
    · intro hn
      rw [if_neg (fun h' => hn (mem'_cons.2 (.inl h'))), i2 (fun h' => hn (mem'_cons.2 (.inr h')))]
theorem inC_append {X Y : List (Int × Int)} {p : Int} : inC (X ++ Y) p = inC X p + inC Y p := List.countP_append
/-- in how many of some sets a place is -/
def allX (l : List (List (Int × Int))) : List (Int × Int) := (l.map canon).flatten
theorem allX_ok {l : List (List (Int × Int))} : ∀ x ∈ allX l, 0 ≤ x.1 ∧ x.1 < x.2 ∧ x.2 ≤ 1000000 := by
  intro x hx
  simp only [allX, List.mem_flatten, List.mem_map] at hx
  obtain ⟨_, ⟨s, _, rfl⟩, hx⟩ := hx
  have := CanF.mem (can_canon s) hx
  omega
theorem inC_all_pos {l : List (List (Int × Int))} {p : Int} : 0 < inC (allX l) p ↔ ∃ s ∈ l, pl s p := by
  induction l with
  | nil => simp [allX, inC]
  | cons s l ih =>
    have e : inC (allX (s :: l)) p = inC (canon s) p + inC (allX l) p := by simp only [allX, List.map_cons, List.flatten_cons, inC_append]
    obtain ⟨h1, h2⟩ := inC_can (can_canon s) p
    have hp : mem' (canon s) p ↔ pl s p := by rw [← pl_canon, (can_canon s).pl_mem]
    rw [e]
    simp only [List.mem_cons, exists_eq_or_imp, ← ih]
    by_cases h : pl s p
    · rw [h1 (hp.2 h)]; simp [h]; omega
    · rw [h2 (fun h' => h (hp.1 h'))]; simp [h]
theorem inC_all_eq {l : List (List (Int × Int))} {p : Int} : inC (allX l) p = l.length ↔ ∀ s ∈ l, pl s p := by
  have hle : inC (allX l) p ≤ l.length := by
    induction l with
    | nil => simp [allX, inC]
    | cons s l ih =>
      have e : inC (allX (s :: l)) p = inC (canon s) p + inC (allX l) p := by simp only [allX, List.map_cons, List.flatten_cons, inC_append]
      obtain ⟨h1, h2⟩ := inC_can (can_canon s) p
      rw [e, List.length_cons]
      by_cases h : mem' (canon s) p
      · have := h1 h; omega
      · have := h2 h; omega
  induction l with
  | nil => simp [allX, inC]
  | cons s l ih =>
    have e : inC (allX (s :: l)) p = inC (canon s) p + inC (allX l) p := by simp only [allX, List.map_cons, List.flatten_cons, inC_append]
    obtain ⟨h1, h2⟩ := inC_can (can_canon s) p
    have hp : mem' (canon s) p ↔ pl s p := by rw [← pl_canon, (can_canon s).pl_mem]
    have hl : inC (allX l) p ≤ l.length := by
      rw [e, List.length_cons] at hle
      by_cases h : mem' (canon s) p
      · have := h1 h; omega
      · have := h2 h
        have : inC (allX l) p ≤ l.length + 1 := by omega
        clear ih hle
        induction l with
        | nil => simp [allX, inC]
        | cons t l ih2 =>
          have e : inC (allX (t :: l)) p = inC (canon t) p + inC (allX l) p := by simp only [allX, List.map_cons, List.flatten_cons, inC_append]
          obtain ⟨h3, h4⟩ := inC_can (can_canon t) p
          have : inC (allX (s :: l)) p = inC (canon s) p + inC (allX l) p := by simp only [allX, List.map_cons, List.flatten_cons, inC_append]
          rw [e, List.length_cons]
          have := ih2 this (by
            have : ∀ l : List (List (Int × Int)), inC (allX l) p ≤ l.length := by
              intro l
              induction l with
              | nil => simp [allX, inC]
              | cons u l ih3 =>
                have e : inC (allX (u :: l)) p = inC (canon u) p + inC (allX l) p := by simp only [allX, List.map_cons, List.flatten_cons, inC_append]
                obtain ⟨h5, h6⟩ := inC_can (can_canon u) p
                rw [e, List.length_cons]
                by_cases h : mem' (canon u) p
                · have := h5 h; omega
                · have := h6 h; omega
            have := this l; omega)
          by_cases h : mem' (canon t) p
          · have := h3 h; omega
          · have := h4 h; omega
    rw [e, List.length_cons]
    simp only [List.mem_cons, forall_eq_or_imp, ← ih hl]
    by_cases h : pl s p
    · rw [h1 (hp.2 h)]; simp [h]; omega
    · rw [h2 (fun h' => h (hp.1 h'))]; simp [h]; omega
end Go.VC
end

section
/- A map's keys, in any order. -/
namespace Go.VC
def encJ (l : List Int) : D := encL (fun j => [D.int j]) l
theorem Std_see {l : List Int} {j : Int} : Std.see (encJ l) j = encJ (l ++ [j]) := by simp [Std, std, encJ, encL, rowsD]
theorem Std_last {l : List Int} {j : Int} : Std.last (encJ (l ++ [j])) = j := by simp [Std, std, encJ, encL, rowsD]
theorem Std_unseen {α : Type} {f : α → List D} {m : List α} {l : List Int} {j : Int} (h : Std.unseen (encL f m) (encJ l) j) : 0 ≤ j ∧ j < m.length ∧ j ∉ l := by
  obtain ⟨h1, h2, h3⟩ := h
  simp only [encL, encJ, rowsD, List.length_map] at h2 h3
  refine ⟨h1, h2, fun hj => h3 (List.mem_map.2 ⟨j, hj, rfl⟩)⟩
theorem Std_allSeen {α : Type} {f : α → List D} {m : List α} {l : List Int} (h : Std.allSeen (encL f m) (encJ l)) : ∀ j : Nat, j < m.length → (j : Int) ∈ l := by
  intro j hj
  have := h j (by simp [encL, rowsD]; exact hj)
  simp only [encJ, encL, rowsD, List.mem_map] at this
  obtain ⟨x, hx, he⟩ := this
  simp at he; subst he; exact hx
theorem encJ_len {l : List Int} : Std.len (encJ l) = (l.length : Int) := Std_len
theorem encJ_cell {l : List Int} {a : Int} : Std.asInt (Std.cell (encJ l) a 0) = l.getD a.toNat 0 := by
  simp only [Std, std, encJ, encL, rowsD]
  rcases Nat.lt_or_ge a.toNat l.length with h | h
  · simp [List.getD_eq_getElem?_getD, h]
  · simp [List.getD_eq_getElem?_getD, h]
theorem seen_all {α : Type} {m : List α} {ks : List Int} (f : Int → Int) (hnd : ks.Nodup) (hr : ∀ j ∈ ks, 0 ≤ j ∧ j < m.length) (ha : ∀ j : Nat, j < m.length → (j : Int) ∈ ks) : (ks.map f).Perm ((List.range m.length).map fun j : Nat => f (j : Int)) := by
  have hp : ks.Perm ((List.range m.length).map fun j : Nat => (j : Int)) := by
    rw [List.perm_ext_iff_of_nodup hnd]
    · intro j
      simp only [List.mem_map, List.mem_range]
      constructor
      · intro hj
        have := hr j hj
        exact ⟨j.toNat, by omega, by omega⟩
      · rintro ⟨k, hk, rfl⟩; exact ha k hk
    · refine List.Pairwise.map _ ?_ List.nodup_range
      intro a b hab h; exact hab (by omega)
  have := hp.map f
  rw [List.map_map] at this
  exact this
theorem range_keys {m : List (Int × Int)} : ((List.range m.length).map fun j : Nat => (gx m (j : Int)).1) = m.map (·.1) := by
  apply List.ext_getElem (by simp)
  intro i h1 h2
  have hi : i < m.length := by simpa using h2
  simp [gx, hi]
theorem nodup_len {ks : List Int} {n : Nat} (hnd : ks.Nodup) (hr : ∀ j ∈ ks, 0 ≤ j ∧ j < n) : ks.length ≤ n := by
  have h : ks ⊆ (List.range n).map fun j : Nat => (j : Int) := by
    intro j hj
    have := hr j hj
    simp only [List.mem_map, List.mem_range]
    exact ⟨j.toNat, by omega, by omega⟩
  have := List.Nodup.length_le_of_subset hnd h
  simpa using this
end Go.VC
end

section
set_option linter.unusedSimpArgs false
set_option linter.unusedVariables false
namespace Go.VC
theorem perm_map {α β : Type} {f : α → β} {l : List α} {r : List β} (h : r.Perm (l.map f)) : ∃ S : List α, S.Perm l ∧ r = S.map f := by
  have h0 : All2 (fun (b : β) (a : α) => b = f a) (l.map f) l := All2.of_get (by simp) fun i h1 h2 => by simp
  obtain ⟨S, h1, h2⟩ := All2.perm h h0
  refine ⟨S, h1, ?_⟩
  clear h h0 h1
  induction h2 with
  | nil => rfl
  | cons h t ih => rw [h, ih]; rfl
end Go.VC
namespace Go.VC.T35
open Go Go.VC Go.Proofs Go.Sort

theorem cks65 : cksOf tt 65 = [.int .i64, .int .i64] := by kernel_rfl
theorem cks51 : cksOf tt 51 = [.str, .bool, .slice 65] := by kernel_rfl
theorem cks3 : cksOf tt 3 = [.int .i64] := by kernel_rfl
theorem rd_int {Pp : Per} {k : IntKind} {v : Value} {d : D} (h : RD tt Pp (.int k) v d) : ∃ n, v = .int k n ∧ d = .int n := by cases h; exact ⟨_, rfl, rfl⟩
theorem relSB {Pp : Per} {us : List Value} {row : List D} (h : RelV tt Pp 65 us row) : ∃ a b, us = [.int .i64 a, .int .i64 b] ∧ row = [.int a, .int b] := by
  obtain ⟨h1, h2, h3⟩ := h
  rw [cks65] at h1 h2 h3
  match us, row, h1, h2 with
  | [u0, u1], [r0, r1], _, _ =>
    obtain ⟨v0, e0, q0⟩ := h3 0 r0 _ rfl rfl
    obtain ⟨v1, e1, q1⟩ := h3 1 r1 _ rfl rfl
    simp at e0 e1; subst e0; subst e1
    obtain ⟨a, rfl, rfl⟩ := rd_int q0
    obtain ⟨b, rfl, rfl⟩ := rd_int q1
    exact ⟨a, b, rfl, rfl⟩
def ltX (x y : List D) : Bool := decide (Std.asInt (x.getD 0 .nil) < Std.asInt (y.getD 0 .nil))

theorem F91 {rows : List (Int × Int)} {d : D} {K : PV → List Ob → Prop} (hd : d = encL encX rows) (hb : ∀ x ∈ rows, 0 ≤ x.1 ∧ x.1 ≤ 1000000) (hn : rows.length < 4294967296)
    (h : ∀ S r, S.Perm rows → (∀ i j (hi : i < S.length) (hj : j < S.length), i < j → S[i].1 ≤ S[j].1) → r = encL encX S → K (.tup []) [.row 65 r true]) : FC Tryz.prog tt 91 [.row 65 d true] [.row 65 0, .clos 92 []] K := by
  subst hd
  refine sort_fc (e := 65) encSB cfSB ltX [.clos 92 []] [.func (.func 92) #[] #[]] ex_clos (fun x => by rw [cks65]; rfl) ?_ ?_ (enters_of Tryz.func91 (by kernel_rfl) rfl) (rows.map encX) (by simp; omega) ?_ ?_ ?_
  · rw [cks65]; exact fun blk off cap d w => sort91 blk off cap d w
  · exact sort91_none
  · intro Pp us row hr hrel
    obtain ⟨x, hx, rfl⟩ := List.mem_map.1 hr
    obtain ⟨a, b, rfl, h2⟩ := relSB hrel
    simp only [encX, List.cons.injEq, D.int.injEq, and_true] at h2
    exact ⟨⟨x, hb x hx⟩, by simp [encSB, h2.1, h2.2]⟩
  · intro Pp x y rx ry h1 h2
    obtain ⟨a, b, e1, rfl⟩ := relSB h1
    obtain ⟨a', b', e2, rfl⟩ := relSB h2
    simp only [encSB, List.cons.injEq, Value.int.injEq, true_and, and_true] at e1 e2
    rw [ltSB, e1.1, e2.1]; rfl
  · intro rows' hp hs
    obtain ⟨S, h1, rfl⟩ := perm_map hp
    refine h S _ h1 (fun i j hi hj hij => ?_) rfl
    have := hs i j (by simpa using hi) (by simpa using hj) hij
    simp only [List.getElem_map, ltX, encX, List.getD_cons_zero] at this
    have := of_decide_eq_false this
    simp only [Std_int] at this
    omega

theorem rd_str {Pp : Per} {v : Value} {d : D} (h : RD tt Pp .str v d) : ∃ b : ByteArray, v = .string b ∧ d = .str b.data.toList := by cases h; exact ⟨_, rfl, rfl⟩
theorem rd_bool {Pp : Per} {v : Value} {d : D} (h : RD tt Pp .bool v d) : ∃ b : Bool, v = .bool b ∧ d = .bool b := by cases h; exact ⟨_, rfl, rfl⟩
theorem rd_sl {Pp : Per} {e : TypeId} {v : Value} {d : D} (h : RD tt Pp (.slice e) v d) : v.oneCell' = true := by cases h <;> rfl
theorem relTB {Pp : Per} {us : List Value} {row : List D} (h : RelV tt Pp 51 us row) : ∃ (a : ByteArray) (b : Bool) (c : Value) (s : D), us = [.string a, .bool b, c] ∧ row = [.str a.data.toList, .bool b, s] ∧ c.oneCell' = true := by
  obtain ⟨h1, h2, h3⟩ := h
  rw [cks51] at h1 h2 h3
  match us, row, h1, h2 with
  | [u0, u1, u2], [r0, r1, r2], _, _ =>
    obtain ⟨v0, e0, q0⟩ := h3 0 r0 _ rfl rfl
    obtain ⟨v1, e1, q1⟩ := h3 1 r1 _ rfl rfl
    obtain ⟨v2, e2, q2⟩ := h3 2 r2 _ rfl rfl
    simp at e0 e1 e2; subst e0; subst e1; subst e2
    obtain ⟨a, rfl, rfl⟩ := rd_str q0
    obtain ⟨b, rfl, rfl⟩ := rd_bool q1
    exact ⟨a, b, u2, r2, rfl, rfl, rd_sl q2⟩
def ltT (x y : List D) : Bool := slt (Std.asStr (x.getD 0 .nil)) (Std.asStr (y.getD 0 .nil))

theorem F65 {rows : List Term} {d : D} {K : PV → List Ob → Prop} (hd : d = encL encT rows) (hn : rows.length < 4294967296)
    (h : ∀ S r, S.Perm rows → (∀ i j (hi : i < S.length) (hj : j < S.length), i < j → slt S[j].path S[i].path = false) → r = encL encT S → K (.tup []) [.row 51 r true]) : FC Tryz.prog tt 65 [.row 51 d true] [.row 51 0, .clos 66 []] K := by
  subst hd
  refine sort_fc (e := 51) encTB cfTB ltT [.clos 66 []] [.func (.func 66) #[] #[]] ex_clos (fun x => by rw [cks51]; rfl) ?_ ?_ (enters_of Tryz.func65 (by kernel_rfl) rfl) (rows.map encT) (by simp; omega) ?_ ?_ ?_
  · rw [cks51]; exact fun blk off cap d w => sort65 blk off cap d w
  · exact sort65_none
  · intro Pp us row hr hrel
    obtain ⟨a, b, c, s, rfl, h2, h3⟩ := relTB hrel
    exact ⟨⟨(a, b, c), h3⟩, rfl⟩
  · intro Pp x y rx ry h1 h2
    obtain ⟨a, b, c, s, e1, rfl, _⟩ := relTB h1
    obtain ⟨a', b', c', s', e2, rfl, _⟩ := relTB h2
    simp only [encTB, List.cons.injEq, Value.string.injEq, and_true] at e1 e2
    rw [ltTB, e1.1, e2.1]; rfl
  · intro rows' hp hs
    obtain ⟨S, h1, rfl⟩ := perm_map hp
    refine h S _ h1 (fun i j hi hj hij => ?_) rfl
    have := hs i j (by simpa using hi) (by simpa using hj) hij
    simp only [List.getElem_map, ltT, encT, List.getD_cons_zero] at this
    exact this

theorem F87 {l : List Int} {d : D} {K : PV → List Ob → Prop} (hd : d = encJ l) (hn : l.length < 4294967296)
    (h : ∀ S r, S.Perm l → (∀ i j (hi : i < S.length) (hj : j < S.length), i < j → S[i] ≤ S[j]) → r = encJ S → K (.tup []) [.row 3 r true]) : FC Tryz.prog tt 87 [.row 3 d true] [.row 3 0] K := by
  subst hd
  have rel1 : ∀ {Pp : Per} {us : List Value} {row : List D}, RelV tt Pp 3 us row → ∃ a, us = [.int .i64 a] ∧ row = [.int a] := by
    intro Pp us row h
    obtain ⟨h1, h2, h3⟩ := h
    rw [cks3] at h1 h2 h3
    match us, row, h1, h2 with
    | [u0], [r0], _, _ =>
      obtain ⟨v0, e0, q0⟩ := h3 0 r0 _ rfl rfl
      simp at e0; subst e0
      obtain ⟨a, rfl, rfl⟩ := rd_int q0
      exact ⟨a, rfl, rfl⟩
  refine sort_fc (e := 3) encIB cfIB ltX [] [] ex_nil (fun x => by rw [cks3]; rfl) ?_ ?_ (enters_of Tryz.func87 (by kernel_rfl) rfl) (l.map fun j => [D.int j]) (by simp; omega) ?_ ?_ ?_
  · rw [cks3]; exact fun blk off cap d w => sort87 blk off cap d w
  · exact sort87_none
  · intro Pp us row hr hrel
    obtain ⟨a, rfl, _⟩ := rel1 hrel
    exact ⟨a, rfl⟩
  · intro Pp x y rx ry h1 h2
    obtain ⟨a, e1, rfl⟩ := rel1 h1
    obtain ⟨a', e2, rfl⟩ := rel1 h2
    simp only [encIB, List.cons.injEq, Value.int.injEq, true_and, and_true] at e1 e2
    rw [ltIB, e1, e2]; rfl
  · intro rows' hp hs
    obtain ⟨S, h1, rfl⟩ := perm_map hp
    refine h S _ h1 (fun i j hi hj hij => ?_) rfl
    have := hs i j (by simpa using hi) (by simpa using hj) hij
    simp only [List.getElem_map, ltX, List.getD_cons_zero] at this
    have := of_decide_eq_false this
    simp only [Std_int] at this
    omega
end Go.VC.T35
end

section
set_option linter.unusedSimpArgs false
set_option linter.unusedVariables false
namespace Go.VC.T35
open Go Go.VC Go.Proofs

set_option maxRecDepth 100000 in
theorem F80 {a b c : Int} {K : PV → List Ob → Prop} (h : K (.agg [.int .i64 a, .int .i64 b, .int .i64 c]) []) : FC Tryz.prog tt 80 [] [.agg [.int .i64 a, .int .i64 b, .int .i64 c]] K := by
  refine FC.enter (G := g80) tt_ok mixed ⟨Tryz.func80, by rfl, rfl⟩ rfl rfl rfl ?_
  intro A C L X
  cbv
  exact h

def validV (a b c : Int) : Bool := decide (0 ≤ a) && decide (a ≤ 999) && decide (0 ≤ b) && decide (b ≤ 999) && decide (0 ≤ c) && decide (c ≤ 999)
set_option maxRecDepth 100000 in
theorem F57 {a b c : Int} {K : PV → List Ob → Prop} (h : ∀ r, r = validV a b c → K (.bool r) []) : FC Tryz.prog tt 57 [] [.agg [.int .i64 a, .int .i64 b, .int .i64 c]] K := by
  refine FC.enter (G := g57) tt_ok mixed ⟨Tryz.func57, by rfl, rfl⟩ rfl rfl rfl ?_
  intro A C L X
  cbv
  refine X.call (F80 ?_)
  cbv
  refine X.loop (fun (i : Nat) => ⟨[(7, .int .i64 i), (6, .agg [.int .i64 a, .int .i64 b, .int .i64 c])], []⟩) (fun i => i ≤ 3 ∧ (0 < i → 0 ≤ a ∧ a ≤ 999) ∧ (1 < i → 0 ≤ b ∧ b ≤ 999) ∧ (2 < i → 0 ≤ c ∧ c ≤ 999)) (fun i => 3 - i) 0 (by omega) ?_ ?_
  · (cbv; repeat' apply And.intro); all_goals (try (first | trivial | rfl | (rw [X.a]; rfl)))
  rintro i ⟨hi, ha, hb, hc⟩
  have hsel : Std.sel [a, b, c] (i : Int) = [a, b, c].getD i 0 := by simp [Std, std]
  have hcases : i = 0 ∨ i = 1 ∨ i = 2 ∨ i = 3 := by omega
  cbv
  repeat' (first | apply And.intro | exact fun (_ : False → False) => by kernel_rfl | (intro h2; cbv) | apply Or.inl)
  all_goals try (obtain rfl := X.a; simp only [Std_x0, Std_x1, Std_len, Std_lt, Std_le, Std_eq, Std_add, Std_sub, Std_mul, Std_not, Std_ite, Std_str, Std_bool, Std_int, Std_slen, Std_seq, Std_slt', Std_beq, Std_idx, Std_bnd, Std_same, Std_max', Std_min', Std_partI, Std_app, Std_len_app, Std_len_lit, Std_len_setc, List.length_take, List.length_drop, List.length_append, List.length_cons, List.length_nil, Int.toNat_natCast, Std_inr64, bNot, Int.ofNat_eq_natCast, Int.natCast_zero, decide_eq_true_eq, decide_eq_false_iff_not, Bool.not_eq_true, Bool.not_eq_false, Bool.not_eq_eq_eq_not, Bool.not_true, Bool.not_false, beq_iff_eq, beq_eq_false_iff_ne, ne_eq, Bool.true_eq_false, Bool.false_eq_true, cond_true, cond_false] at * <;> omega)
  all_goals (
    have h9 : A.sel [a, b, c] (Int.ofNat i) = [a, b, c].getD i 0 := by rw [X.a]; exact hsel)
  · refine h _ ?_
    rcases hcases with rfl | rfl | rfl | rfl
    all_goals (obtain rfl := X.a; simp only [h9, Std_x0, Std_x1, Std_len, Std_lt, Std_le, Std_eq, Std_add, Std_sub, Std_mul, Std_not, Std_ite, Std_str, Std_bool, Std_int, Std_slen, Std_seq, Std_slt', Std_beq, Std_idx, Std_bnd, Std_same, Std_max', Std_min', Std_partI, Std_app, Std_len_app, Std_len_lit, Std_len_setc, List.length_take, List.length_drop, List.length_append, List.length_cons, List.length_nil, Int.toNat_natCast, Std_inr64, bNot, Int.ofNat_eq_natCast, Int.natCast_zero, decide_eq_true_eq, decide_eq_false_iff_not, Bool.not_eq_true, Bool.not_eq_false, Bool.not_eq_eq_eq_not, Bool.not_true, Bool.not_false, beq_iff_eq, beq_eq_false_iff_ne, ne_eq, Bool.true_eq_false, Bool.false_eq_true, cond_true, cond_false] at *)
    all_goals (simp at *; try simp [validV]; try omega)
  · have h8 : i < 3 ∧ 0 ≤ [a, b, c].getD i 0 ∧ [a, b, c].getD i 0 ≤ 999 := by
      obtain rfl := X.a; simp only [h9, Std_x0, Std_x1, Std_len, Std_lt, Std_le, Std_eq, Std_add, Std_sub, Std_mul, Std_not, Std_ite, Std_str, Std_bool, Std_int, Std_slen, Std_seq, Std_slt', Std_beq, Std_idx, Std_bnd, Std_same, Std_max', Std_min', Std_partI, Std_app, Std_len_app, Std_len_lit, Std_len_setc, List.length_take, List.length_drop, List.length_append, List.length_cons, List.length_nil, Int.toNat_natCast, Std_inr64, bNot, Int.ofNat_eq_natCast, Int.natCast_zero, decide_eq_true_eq, decide_eq_false_iff_not, Bool.not_eq_true, Bool.not_eq_false, Bool.not_eq_eq_eq_not, Bool.not_true, Bool.not_false, beq_iff_eq, beq_eq_false_iff_ne, ne_eq, Bool.true_eq_false, Bool.false_eq_true, cond_true, cond_false] at *; exact ⟨by omega, by omega, by omega⟩
    refine ⟨i+1, ?_, by omega, ?_⟩
    · rcases hcases with rfl | rfl | rfl | rfl <;> simp at h8 <;> omega
    · (cbv; repeat' apply And.intro); all_goals (try (first | trivial | rfl | (rw [X.a]; rfl)))
  · refine h _ ?_
    rcases hcases with rfl | rfl | rfl | rfl
    all_goals (obtain rfl := X.a; simp only [h9, Std_x0, Std_x1, Std_len, Std_lt, Std_le, Std_eq, Std_add, Std_sub, Std_mul, Std_not, Std_ite, Std_str, Std_bool, Std_int, Std_slen, Std_seq, Std_slt', Std_beq, Std_idx, Std_bnd, Std_same, Std_max', Std_min', Std_partI, Std_app, Std_len_app, Std_len_lit, Std_len_setc, List.length_take, List.length_drop, List.length_append, List.length_cons, List.length_nil, Int.toNat_natCast, Std_inr64, bNot, Int.ofNat_eq_natCast, Int.natCast_zero, decide_eq_true_eq, decide_eq_false_iff_not, Bool.not_eq_true, Bool.not_eq_false, Bool.not_eq_eq_eq_not, Bool.not_true, Bool.not_false, beq_iff_eq, beq_eq_false_iff_ne, ne_eq, Bool.true_eq_false, Bool.false_eq_true, cond_true, cond_false] at *)
    all_goals (simp at *; try simp [validV]; try omega)
  · refine h _ ?_
    have h8 : i = 3 := by obtain rfl := X.a; simp only [Std_x0, Std_x1, Std_len, Std_lt, Std_le, Std_eq, Std_add, Std_sub, Std_mul, Std_not, Std_ite, Std_str, Std_bool, Std_int, Std_slen, Std_seq, Std_slt', Std_beq, Std_idx, Std_bnd, Std_same, Std_max', Std_min', Std_partI, Std_app, Std_len_app, Std_len_lit, Std_len_setc, List.length_take, List.length_drop, List.length_append, List.length_cons, List.length_nil, Int.toNat_natCast, Std_inr64, bNot, Int.ofNat_eq_natCast, Int.natCast_zero, decide_eq_true_eq, decide_eq_false_iff_not, Bool.not_eq_true, Bool.not_eq_false, Bool.not_eq_eq_eq_not, Bool.not_true, Bool.not_false, beq_iff_eq, beq_eq_false_iff_ne, ne_eq, Bool.true_eq_false, Bool.false_eq_true, cond_true, cond_false] at *; omega
    subst h8
    simp [validV]; omega

set_option maxRecDepth 100000 in
theorem F25 {a b c : Int} {K : PV → List Ob → Prop} (h0 : validV a b c = false → K (.tup [.int .i64 0, .int .i64 2]) []) (h1 : validV a b c = true → K (.tup [.int .i64 (1000 * b + c), .int .i64 0]) []) : FC Tryz.prog tt 25 [] [.agg [.int .i64 a, .int .i64 b, .int .i64 c]] K := by
  refine FC.enter (G := g25) tt_ok mixed ⟨Tryz.func25, by rfl, rfl⟩ rfl rfl rfl ?_
  intro A C L X
  cbv
  refine X.call (F57 fun r hr => ?_)
  cbv
  repeat' (first | apply And.intro | exact fun (_ : False → False) => by kernel_rfl | (intro h2; cbv) | apply Or.inl)
  · have hv : validV a b c = false := by rw [← hr]; obtain rfl := X.a; simp only [Std_x0, Std_x1, Std_len, Std_lt, Std_le, Std_eq, Std_add, Std_sub, Std_mul, Std_not, Std_ite, Std_str, Std_bool, Std_int, Std_slen, Std_seq, Std_slt', Std_beq, Std_idx, Std_bnd, Std_same, Std_max', Std_min', Std_partI, Std_app, Std_len_app, Std_len_lit, Std_len_setc, List.length_take, List.length_drop, List.length_append, List.length_cons, List.length_nil, Int.toNat_natCast, Std_inr64, bNot, Int.ofNat_eq_natCast, Int.natCast_zero, decide_eq_true_eq, decide_eq_false_iff_not, Bool.not_eq_true, Bool.not_eq_false, Bool.not_eq_eq_eq_not, Bool.not_true, Bool.not_false, beq_iff_eq, beq_eq_false_iff_ne, ne_eq, Bool.true_eq_false, Bool.false_eq_true, cond_true, cond_false] at *; assumption
    exact h0 hv
  all_goals (have hv : validV a b c = true := by rw [← hr]; obtain rfl := X.a; simp only [Std_x0, Std_x1, Std_len, Std_lt, Std_le, Std_eq, Std_add, Std_sub, Std_mul, Std_not, Std_ite, Std_str, Std_bool, Std_int, Std_slen, Std_seq, Std_slt', Std_beq, Std_idx, Std_bnd, Std_same, Std_max', Std_min', Std_partI, Std_app, Std_len_app, Std_len_lit, Std_len_setc, List.length_take, List.length_drop, List.length_append, List.length_cons, List.length_nil, Int.toNat_natCast, Std_inr64, bNot, Int.ofNat_eq_natCast, Int.natCast_zero, decide_eq_true_eq, decide_eq_false_iff_not, Bool.not_eq_true, Bool.not_eq_false, Bool.not_eq_eq_eq_not, Bool.not_true, Bool.not_false, beq_iff_eq, beq_eq_false_iff_ne, ne_eq, Bool.true_eq_false, Bool.false_eq_true, cond_true, cond_false] at *; assumption)
  · simp [validV] at hv; obtain rfl := X.a; simp only [Std_x0, Std_x1, Std_len, Std_lt, Std_le, Std_eq, Std_add, Std_sub, Std_mul, Std_not, Std_ite, Std_str, Std_bool, Std_int, Std_slen, Std_seq, Std_slt', Std_beq, Std_idx, Std_bnd, Std_same, Std_max', Std_min', Std_partI, Std_app, Std_len_app, Std_len_lit, Std_len_setc, List.length_take, List.length_drop, List.length_append, List.length_cons, List.length_nil, Int.toNat_natCast, Std_inr64, bNot, Int.ofNat_eq_natCast, Int.natCast_zero, decide_eq_true_eq, decide_eq_false_iff_not, Bool.not_eq_true, Bool.not_eq_false, Bool.not_eq_eq_eq_not, Bool.not_true, Bool.not_false, beq_iff_eq, beq_eq_false_iff_ne, ne_eq, Bool.true_eq_false, Bool.false_eq_true, cond_true, cond_false] at *; omega
  · simp [validV] at hv; obtain rfl := X.a; simp only [Std_x0, Std_x1, Std_len, Std_lt, Std_le, Std_eq, Std_add, Std_sub, Std_mul, Std_not, Std_ite, Std_str, Std_bool, Std_int, Std_slen, Std_seq, Std_slt', Std_beq, Std_idx, Std_bnd, Std_same, Std_max', Std_min', Std_partI, Std_app, Std_len_app, Std_len_lit, Std_len_setc, List.length_take, List.length_drop, List.length_append, List.length_cons, List.length_nil, Int.toNat_natCast, Std_inr64, bNot, Int.ofNat_eq_natCast, Int.natCast_zero, decide_eq_true_eq, decide_eq_false_iff_not, Bool.not_eq_true, Bool.not_eq_false, Bool.not_eq_eq_eq_not, Bool.not_true, Bool.not_false, beq_iff_eq, beq_eq_false_iff_ne, ne_eq, Bool.true_eq_false, Bool.false_eq_true, cond_true, cond_false] at *; omega
  · have := h1 hv
    obtain rfl := X.a; exact this

set_option maxRecDepth 100000 in
set_option maxHeartbeats 2000000 in
theorem F83 {s : List (Int × Int)} {d : D} {K : PV → List Ob → Prop} (hd : d = encL encX s) (hl : s.length < 4294967296) (h : ∀ r, r = encL encX (canon s) → K (.lst 65 r) []) : FC Tryz.prog tt 83 [] [.lst 65 d] K := by
  refine FC.enter (G := g83) tt_ok mixed ⟨Tryz.func83, by rfl, rfl⟩ rfl rfl rfl ?_
  intro A C L X
  obtain ⟨T, hT⟩ : ∃ T, T =  encL encX := ⟨_, rfl⟩
  have hlen : A.len d = Int.ofNat s.length := by rw [X.a, hd]; exact Std_len
  obtain ⟨n, hn⟩ : ∃ n, n = s.length := ⟨_, rfl⟩
  rw [← hn] at hlen
  cbv
  refine X.loop (fun (x : Nat × List (Int × Int)) => ⟨[(11, .int .i64 x.1), (10, .int .i64 (A.len d)), (9, .lst 65 d), (3, .row 65 0)], [.row 65 (T x.2) true]⟩) (fun x => x.1 ≤ n ∧ x.2 = clipF (s.take x.1)) (fun x => n - x.1) (0, []) ⟨Nat.zero_le _, rfl⟩ ?_ ?_
  · (cbv; repeat' apply And.intro); all_goals (try (first | trivial | rfl | (rw [X.a]; rfl)))
    rw [hT]; rfl
  rintro ⟨i, o⟩ ⟨hi, ho⟩
  dsimp only at hi ho ⊢
  have hol : o.length ≤ i := by
    have := clipF_len (l := s.take i); rw [← ho] at this; simp at this; omega
  cbv
  refine ⟨fun h1 => ?_, fun h1 => ?_⟩
  · cbv
    repeat' (first | apply And.intro | exact fun (_ : False → False) => by kernel_rfl | (intro h2; cbv) | apply Or.inl)
    all_goals try (subst hd; obtain rfl := X.a; clear X; subst hT; simp only [Std_x0, Std_x1, Std_len, Std_lt, Std_le, Std_eq, Std_add, Std_sub, Std_mul, Std_not, Std_ite, Std_str, Std_bool, Std_int, Std_slen, Std_seq, Std_slt', Std_beq, Std_idx, Std_bnd, Std_same, Std_max', Std_min', Std_partI, Std_app, Std_len_app, Std_len_lit, Std_len_setc, List.length_take, List.length_drop, List.length_append, List.length_cons, List.length_nil, Int.toNat_natCast, Std_inr64, bNot, Int.ofNat_eq_natCast, Int.natCast_zero, decide_eq_true_eq, decide_eq_false_iff_not, Bool.not_eq_true, Bool.not_eq_false, Bool.not_eq_eq_eq_not, Bool.not_true, Bool.not_false, beq_iff_eq, beq_eq_false_iff_ne, ne_eq, Bool.true_eq_false, Bool.false_eq_true, cond_true, cond_false] at * <;> omega)
    all_goals (
      have h5 : i < s.length := by obtain rfl := X.a; simp only [hlen, Std_x0, Std_x1, Std_len, Std_lt, Std_le, Std_eq, Std_add, Std_sub, Std_mul, Std_not, Std_ite, Std_str, Std_bool, Std_int, Std_slen, Std_seq, Std_slt', Std_beq, Std_idx, Std_bnd, Std_same, Std_max', Std_min', Std_partI, Std_app, Std_len_app, Std_len_lit, Std_len_setc, List.length_take, List.length_drop, List.length_append, List.length_cons, List.length_nil, Int.toNat_natCast, Std_inr64, bNot, Int.ofNat_eq_natCast, Int.natCast_zero, decide_eq_true_eq, decide_eq_false_iff_not, Bool.not_eq_true, Bool.not_eq_false, Bool.not_eq_eq_eq_not, Bool.not_true, Bool.not_false, beq_iff_eq, beq_eq_false_iff_ne, ne_eq, Bool.true_eq_false, Bool.false_eq_true, cond_true, cond_false] at h1; omega
      have g5 : gx s (i : Int) = s[i] := gx_get i rfl h5
      have ha : Std.max (Std.asInt (Std.cell d (i : Int) 0)) 0 = (clip s[i]).1 := by rw [hd, Std_x0, g5, Std_max']; simp only [clip]; omega
      have hb : Std.min (Std.asInt (Std.cell d (i : Int) 1)) 1000000 = (clip s[i]).2 := by rw [hd, Std_x1, g5, Std_min']; simp only [clip]; omega
      have hsn : clipF (s.take (i+1)) = o ++ (if (clip s[i]).1 < (clip s[i]).2 then [clip s[i]] else []) := by rw [take_succ' h5, clipF_snoc, ← ho]
      obtain ⟨x, hx⟩ : ∃ x, x = clip s[i] := ⟨_, rfl⟩
      rw [← hx] at ha hb hsn)
    · have hlt : x.1 < x.2 := by
        rename_i h3
        rw [X.a] at h3
        have h3 : Std.lt (Std.max (Std.asInt (Std.cell d (i : Int) 0)) 0) (Std.min (Std.asInt (Std.cell d (i : Int) 1)) 1000000) = true := h3
        rw [ha, hb, Std_lt] at h3; exact of_decide_eq_true h3
      rw [if_pos hlt] at hsn
      obtain ⟨o2, ho2⟩ : ∃ o2, o2 = o ++ [x] := ⟨_, rfl⟩
      rw [← ho2] at hsn
      refine ⟨(i+1, o2), ⟨by dsimp only; omega, hsn.symm⟩, by dsimp only; omega, ?_⟩
      (cbv; repeat' apply And.intro); all_goals (try (first | trivial | rfl | (rw [X.a]; rfl)))
      obtain rfl := X.a; subst hT; subst ho2
      refine Std_app' rfl (lit1e x ?_)
      rw [encX, ← ha, ← hb]; rfl
    · have hlt : ¬ x.1 < x.2 := by
        rename_i h3
        rw [X.a] at h3
        have h3 : Std.lt (Std.max (Std.asInt (Std.cell d (i : Int) 0)) 0) (Std.min (Std.asInt (Std.cell d (i : Int) 1)) 1000000) = false := h3
        rw [ha, hb, Std_lt] at h3; exact of_decide_eq_false h3
      rw [if_neg hlt, List.append_nil] at hsn
      refine ⟨(i+1, o), ⟨by dsimp only; omega, hsn.symm⟩, by dsimp only; omega, ?_⟩
      (cbv; repeat' apply And.intro); all_goals (try (first | trivial | rfl | (rw [X.a]; rfl)))
  · have h5 : i = n := by obtain rfl := X.a; simp only [hlen, Std_x0, Std_x1, Std_len, Std_lt, Std_le, Std_eq, Std_add, Std_sub, Std_mul, Std_not, Std_ite, Std_str, Std_bool, Std_int, Std_slen, Std_seq, Std_slt', Std_beq, Std_idx, Std_bnd, Std_same, Std_max', Std_min', Std_partI, Std_app, Std_len_app, Std_len_lit, Std_len_setc, List.length_take, List.length_drop, List.length_append, List.length_cons, List.length_nil, Int.toNat_natCast, Std_inr64, bNot, Int.ofNat_eq_natCast, Int.natCast_zero, decide_eq_true_eq, decide_eq_false_iff_not, Bool.not_eq_true, Bool.not_eq_false, Bool.not_eq_eq_eq_not, Bool.not_true, Bool.not_false, beq_iff_eq, beq_eq_false_iff_ne, ne_eq, Bool.true_eq_false, Bool.false_eq_true, cond_true, cond_false] at h1; omega
    subst h5
    rw [hn, List.take_length] at ho
    cbv
    refine X.call (F91 (rows := o) (by rw [hT]) ?_ (by omega) fun S r hp hsrt hr => ?_)
    · intro x hx; rw [ho] at hx; have := clipF_mem hx; omega
    have hSl : S.length = o.length := hp.length_eq
    cbv
    obtain ⟨m, hm⟩ : ∃ m, m = S.length := ⟨_, rfl⟩
    refine X.loop (fun (x : Nat × Nat × List (Int × Int) × List (Int × Int)) => ⟨[(36, .int .i64 x.1), (35, .int .i64 m), (34, .row 65 0), (6, .int .i64 x.2.1), (3, .row 65 0)], [.row 65 (T x.2.2.1) true]⟩) (fun x => x.1 ≤ m ∧ Cur S x.2.2.1 x.1 x.2.1 x.2.2.2) (fun x => m - x.1) (0, 0, S, []) ⟨Nat.zero_le _, rfl, Nat.le_refl _, rfl, rfl, rfl, .inl ⟨rfl, rfl⟩⟩ ?_ ?_
    · (cbv; repeat' apply And.intro); all_goals (try (first | trivial | rfl | (rw [X.a]; rfl)))
      · rw [X.a, hr, hm]; exact Std_len
      · rw [hr, hT]
    rintro ⟨j, k, cur, q⟩ ⟨hj, hcur⟩
    dsimp only at hj hcur ⊢
    have hni := hcur.ni
    have hcl := hcur.len
    have hon := hcur.on
    have hk0 : 0 < j → 0 < k := fun h => by
      obtain ⟨o', x, rfl⟩ := hcur.ne h
      simp at hon; omega
    have hgj : ∀ h : j < S.length, gx cur (Int.ofNat j) = S[j] := fun h => by
      rw [Int.ofNat_eq_natCast, gx_get j rfl (by omega), hcur.get h]
    have hgk : ∀ o' x, q = o' ++ [x] → gx cur (Int.ofNat k - 1) = x := fun o' x h => by
      subst h
      obtain ⟨h1, h2, h3⟩ := hcur.last
      rw [gx_get (k-1) (by rw [Int.ofNat_eq_natCast]; omega) h1, h2]
    cbv
    repeat' (first | apply And.intro | exact fun (_ : False → False) => by kernel_rfl | (intro h2; cbv) | apply Or.inl)
    all_goals try (obtain rfl := X.a; clear X; subst hT; simp only [Std_x0, Std_x1, Std_len, Std_lt, Std_le, Std_eq, Std_add, Std_sub, Std_mul, Std_not, Std_ite, Std_str, Std_bool, Std_int, Std_slen, Std_seq, Std_slt', Std_beq, Std_idx, Std_bnd, Std_same, Std_max', Std_min', Std_partI, Std_app, Std_len_app, Std_len_lit, Std_len_setc, List.length_take, List.length_drop, List.length_append, List.length_cons, List.length_nil, Int.toNat_natCast, Std_inr64, bNot, Int.ofNat_eq_natCast, Int.natCast_zero, decide_eq_true_eq, decide_eq_false_iff_not, Bool.not_eq_true, Bool.not_eq_false, Bool.not_eq_eq_eq_not, Bool.not_true, Bool.not_false, beq_iff_eq, beq_eq_false_iff_ne, ne_eq, Bool.true_eq_false, Bool.false_eq_true, cond_true, cond_false] at * <;> omega)
    · obtain ⟨h5, h6, h7⟩ : j < S.length ∧ 0 < j ∧ (gx cur (j : Int)).1 ≤ (gx cur ((k : Int) - 1)).2 := by
        obtain rfl := X.a; subst hT; simp only [Std_x0, Std_x1, Std_len, Std_lt, Std_le, Std_eq, Std_add, Std_sub, Std_mul, Std_not, Std_ite, Std_str, Std_bool, Std_int, Std_slen, Std_seq, Std_slt', Std_beq, Std_idx, Std_bnd, Std_same, Std_max', Std_min', Std_partI, Std_app, Std_len_app, Std_len_lit, Std_len_setc, List.length_take, List.length_drop, List.length_append, List.length_cons, List.length_nil, Int.toNat_natCast, Std_inr64, bNot, Int.ofNat_eq_natCast, Int.natCast_zero, decide_eq_true_eq, decide_eq_false_iff_not, Bool.not_eq_true, Bool.not_eq_false, Bool.not_eq_eq_eq_not, Bool.not_true, Bool.not_false, beq_iff_eq, beq_eq_false_iff_ne, ne_eq, Bool.true_eq_false, Bool.false_eq_true, cond_true, cond_false] at *; exact ⟨by omega, by omega, by omega⟩
      obtain ⟨o', x, rfl⟩ := hcur.ne h6
      have g1 : gx cur (j : Int) = S[j] := hgj h5
      have g2 : gx cur ((k : Int) - 1) = x := hgk _ _ rfl
      rw [g1, g2] at h7
      have hkp := hk0 h6
      have hc2 := hcur.grow h5 h7
      obtain ⟨q2, hq2⟩ : ∃ q2, q2 = o' ++ [(x.1, max x.2 S[j].2)] := ⟨_, rfl⟩
      obtain ⟨c2, hcc2⟩ : ∃ c2, c2 = cur.set (k-1) (x.1, max x.2 S[j].2) := ⟨_, rfl⟩
      rw [← hq2, ← hcc2] at hc2
      refine ⟨(j+1, k, c2, q2), ⟨by dsimp only; omega, hc2⟩, by dsimp only; omega, ?_⟩
      (cbv; repeat' apply And.intro); all_goals (try (first | trivial | rfl | (rw [X.a]; rfl)))
      obtain rfl := X.a; subst hT; subst hcc2
      have hk1 : k - 1 < cur.length := by omega
      have hck : cur[k-1] = x := by obtain ⟨_, h8, _⟩ := hcur.last; exact h8
      have hmx : Std.max (Std.asInt (Std.cell (encL encX cur) (Std.sub (k : Int) 1) 1)) (Std.asInt (Std.cell (encL encX cur) (j : Int) 1)) = max x.2 S[j].2 := by
        rw [Std_x1, Std_x1, Std_max', Std_sub, g1, g2]
      exact Std_setc (f := encX) (l := cur) (a := Std.sub (k : Int) 1) (i := k-1) (off := 1) (vs := [.int (Std.max (Std.asInt (Std.cell (encL encX cur) (Std.sub (k : Int) 1) 1)) (Std.asInt (Std.cell (encL encX cur) (j : Int) 1)))]) (y := (x.1, max x.2 S[j].2)) (by rw [Std_sub]; omega) hk1 (by rw [hmx, hck]; rfl)
    iterate 2
      · have h5 : j < S.length := by obtain rfl := X.a; subst hT; simp only [Std_x0, Std_x1, Std_len, Std_lt, Std_le, Std_eq, Std_add, Std_sub, Std_mul, Std_not, Std_ite, Std_str, Std_bool, Std_int, Std_slen, Std_seq, Std_slt', Std_beq, Std_idx, Std_bnd, Std_same, Std_max', Std_min', Std_partI, Std_app, Std_len_app, Std_len_lit, Std_len_setc, List.length_take, List.length_drop, List.length_append, List.length_cons, List.length_nil, Int.toNat_natCast, Std_inr64, bNot, Int.ofNat_eq_natCast, Int.natCast_zero, decide_eq_true_eq, decide_eq_false_iff_not, Bool.not_eq_true, Bool.not_eq_false, Bool.not_eq_eq_eq_not, Bool.not_true, Bool.not_false, beq_iff_eq, beq_eq_false_iff_ne, ne_eq, Bool.true_eq_false, Bool.false_eq_true, cond_true, cond_false] at *; omega
        have g1 : gx cur (j : Int) = S[j] := hgj h5
        have hc2 := hcur.add h5 (fun o' x hq => by
          have g2 : gx cur ((k : Int) - 1) = x := hgk _ _ hq
          have hkk : 0 < k := by subst hq; simp at hon; omega
          obtain rfl := X.a; subst hT; simp only [g1, g2, Std_x0, Std_x1, Std_len, Std_lt, Std_le, Std_eq, Std_add, Std_sub, Std_mul, Std_not, Std_ite, Std_str, Std_bool, Std_int, Std_slen, Std_seq, Std_slt', Std_beq, Std_idx, Std_bnd, Std_same, Std_max', Std_min', Std_partI, Std_app, Std_len_app, Std_len_lit, Std_len_setc, List.length_take, List.length_drop, List.length_append, List.length_cons, List.length_nil, Int.toNat_natCast, Std_inr64, bNot, Int.ofNat_eq_natCast, Int.natCast_zero, decide_eq_true_eq, decide_eq_false_iff_not, Bool.not_eq_true, Bool.not_eq_false, Bool.not_eq_eq_eq_not, Bool.not_true, Bool.not_false, beq_iff_eq, beq_eq_false_iff_ne, ne_eq, Bool.true_eq_false, Bool.false_eq_true, cond_true, cond_false] at *; omega)
        obtain ⟨q2, hq2⟩ : ∃ q2, q2 = q ++ [S[j]] := ⟨_, rfl⟩
        obtain ⟨c2, hcc2⟩ : ∃ c2, c2 = cur.set k S[j] := ⟨_, rfl⟩
        rw [← hq2, ← hcc2] at hc2
        refine ⟨(j+1, k+1, c2, q2), ⟨by dsimp only; omega, hc2⟩, by dsimp only; omega, ?_⟩
        (cbv; repeat' apply And.intro); all_goals (try (first | trivial | rfl | (rw [X.a]; rfl)))
        obtain rfl := X.a; subst hT; subst hcc2
        refine Std_setc (f := encX) (l := cur) (i := k) (off := 0) (vs := [.int (Std.asInt (Std.cell (encL encX cur) (j : Int) 0)), .int (Std.asInt (Std.cell (encL encX cur) (j : Int) 1))]) (y := S[j]) rfl (by omega) ?_
        rw [Std_x0, Std_x1, g1]; rfl
    · have h5 : j = S.length := by obtain rfl := X.a; subst hT; simp only [Std_x0, Std_x1, Std_len, Std_lt, Std_le, Std_eq, Std_add, Std_sub, Std_mul, Std_not, Std_ite, Std_str, Std_bool, Std_int, Std_slen, Std_seq, Std_slt', Std_beq, Std_idx, Std_bnd, Std_same, Std_max', Std_min', Std_partI, Std_app, Std_len_app, Std_len_lit, Std_len_setc, List.length_take, List.length_drop, List.length_append, List.length_cons, List.length_nil, Int.toNat_natCast, Std_inr64, bNot, Int.ofNat_eq_natCast, Int.natCast_zero, decide_eq_true_eq, decide_eq_false_iff_not, Bool.not_eq_true, Bool.not_eq_false, Bool.not_eq_eq_eq_not, Bool.not_true, Bool.not_false, beq_iff_eq, beq_eq_false_iff_ne, ne_eq, Bool.true_eq_false, Bool.false_eq_true, cond_true, cond_false] at *; omega
      refine h _ ?_
      rw [canon_of_sorted (s := s) (by rw [← ho]; exact hp) hsrt, ← hcur.done h5]
      obtain rfl := X.a; subst hT
      have := Std_part (f := encX) (l := cur) (a := 0) (b := k)
      simpa using this
end Go.VC.T35
end

section
set_option linter.unusedSimpArgs false
set_option linter.unusedVariables false
namespace Go.VC.T35
open Go Go.VC Go.Proofs

set_option maxRecDepth 100000 in
set_option maxHeartbeats 4000000 in
theorem F71 {g : FuncId} {kp : Int → Bool} {l : List (List (Int × Int))} {d : D} {K : PV → List Ob → Prop} (hd : d = encSS l) (hl : l.length ≤ 100) (hls : ∀ s ∈ l, s.length ≤ 2000000)
    (hkeep : ∀ (n : Int) (K' : PV → List Ob → Prop), (∀ b, b = kp n → K' (.bool b) []) → FC Tryz.prog tt g [] (.int .i64 n :: []) K')
    (h : ∀ c r, Can c → (∀ p, pl c p ↔ 0 ≤ p ∧ p < 1000000 ∧ kp (inC (allX l) p) = true) → r = encL encX c → K (.lst 65 r) []) : FC Tryz.prog tt 71 [] [.clos g [], .lst 23 d] K := by
  refine FC.enter (G := g71) tt_ok mixed ⟨Tryz.func71, by rfl, rfl⟩ rfl rfl rfl ?_
  intro A C L X
  obtain ⟨T, hT⟩ : ∃ T, T =  encL encX := ⟨_, rfl⟩
  obtain ⟨U, hU⟩ : ∃ T, T =  encJ := ⟨_, rfl⟩
  obtain ⟨n, hn⟩ : ∃ n, n = l.length := ⟨_, rfl⟩
  have hlen : Std.len d = Int.ofNat n := by rw [hd, encSS_len, hn]; rfl
  cbv
  refine X.loop (fun (x : Nat × List (Int × Int)) => ⟨[(19, .int .i64 x.1), (18, .int .i64 (A.len d)), (17, .lst 23 d), (5, .mp 0), (0, .clos g [])], [.map (.int .i64) 3 (T x.2)]⟩) (fun x => x.1 ≤ n ∧ Chg (allX (l.take x.1)) x.2) (fun x => n - x.1) (0, setM 1000000 0 (setM 0 0 [])) ⟨Nat.zero_le _, Chg.start⟩ ?_ ?_
  · (cbv; repeat' apply And.intro); all_goals (try (first | trivial | rfl | (rw [X.a]; rfl)))
    obtain rfl := X.a; subst hT
    have e0 : Std.mset (.list []) (.int 0) [.int 0] = encL encX (setM 0 0 []) := Std_mset (m := [])
    have e1 := Std_mset (m := setM 0 0 []) (k := 1000000) (v := 0)
    rw [← e0] at e1
    exact e1
  rintro ⟨i, m⟩ ⟨hi, hm⟩
  dsimp only at hi hm ⊢
  cbv
  refine ⟨fun h1 => ?_, fun h1 => ?_⟩
  · have h5 : i < l.length := by obtain rfl := X.a; simp only [hlen, Std_x0, Std_x1, Std_len, Std_lt, Std_le, Std_eq, Std_add, Std_sub, Std_mul, Std_not, Std_ite, Std_str, Std_bool, Std_int, Std_slen, Std_seq, Std_slt', Std_beq, Std_idx, Std_bnd, Std_same, Std_max', Std_min', Std_partI, Std_app, Std_len_app, Std_len_lit, Std_len_setc, List.length_take, List.length_drop, List.length_append, List.length_cons, List.length_nil, Int.toNat_natCast, Std_inr64, bNot, Int.ofNat_eq_natCast, Int.natCast_zero, decide_eq_true_eq, decide_eq_false_iff_not, Bool.not_eq_true, Bool.not_eq_false, Bool.not_eq_eq_eq_not, Bool.not_true, Bool.not_false, beq_iff_eq, beq_eq_false_iff_ne, ne_eq, Bool.true_eq_false, Bool.false_eq_true, cond_true, cond_false] at h1; omega
    have hc5 : Std.cell d (Int.ofNat i) 0 = encL encX l[i] := by rw [hd]; exact encSS_cell i rfl h5
    have hs5 : l[i].length ≤ 2000000 := hls _ (List.getElem_mem h5)
    have hX5 : allX (l.take (i+1)) = allX (l.take i) ++ canon l[i] := by rw [take_succ' h5]; simp only [allX, List.map_append, List.map_cons, List.map_nil, List.flatten_append, List.flatten_cons, List.flatten_nil, List.append_nil]
    have hXl : (allX (l.take i)).length ≤ i * 1000001 := by
      have : ∀ k : List (List (Int × Int)), (allX k).length ≤ k.length * 1000001 := fun k => by
        induction k with
        | nil => simp [allX]
        | cons s k ih =>
          have := (can_canon s).length
          simp only [allX, List.map_cons, List.flatten_cons, List.length_append, List.length_cons] at ih ⊢; omega
      have := this (l.take i); rw [List.length_take, Nat.min_eq_left (by omega)] at this; exact this
    obtain ⟨s, hs⟩ : ∃ s, s = l[i] := ⟨_, rfl⟩
    rw [← hs] at hc5 hs5 hX5
    have hcl := (can_canon s).length
    have hcm : ∀ x ∈ canon s, 0 ≤ x.1 ∧ x.1 < x.2 ∧ x.2 ≤ 1000000 := fun x hx => by have := CanF.mem (can_canon s) hx; omega
    obtain ⟨c, hc⟩ : ∃ c, c = canon s := ⟨_, rfl⟩
    have hcr : encL encX (canon s) = encL encX c := by rw [hc]
    rw [← hc] at hX5 hcl hcm
    obtain ⟨XX, hXX⟩ : ∃ XX, XX = allX (l.take i) := ⟨_, rfl⟩
    rw [← hXX] at hm hX5 hXl
    cbv
    refine ⟨?_, ?_⟩
    · obtain rfl := X.a; simp only [hlen, Std_x0, Std_x1, Std_len, Std_lt, Std_le, Std_eq, Std_add, Std_sub, Std_mul, Std_not, Std_ite, Std_str, Std_bool, Std_int, Std_slen, Std_seq, Std_slt', Std_beq, Std_idx, Std_bnd, Std_same, Std_max', Std_min', Std_partI, Std_app, Std_len_app, Std_len_lit, Std_len_setc, List.length_take, List.length_drop, List.length_append, List.length_cons, List.length_nil, Int.toNat_natCast, Std_inr64, bNot, Int.ofNat_eq_natCast, Int.natCast_zero, decide_eq_true_eq, decide_eq_false_iff_not, Bool.not_eq_true, Bool.not_eq_false, Bool.not_eq_eq_eq_not, Bool.not_true, Bool.not_false, beq_iff_eq, beq_eq_false_iff_ne, ne_eq, Bool.true_eq_false, Bool.false_eq_true, cond_true, cond_false] at *; omega
    refine X.call (F83 (s := s) (by rw [X.a]; exact hc5) (by omega) fun r hr => ?_)
    rw [hcr] at hr
    have hrl : A.len r = Int.ofNat c.length := by rw [X.a, hr]; exact Std_len
    obtain ⟨q, hq⟩ : ∃ q, q = c.length := ⟨_, rfl⟩
    rw [← hq] at hrl
    cbv
    refine X.loop (fun (x : Nat × List (Int × Int)) => ⟨[(26, .int .i64 x.1), (25, .int .i64 (A.len r)), (24, .lst 65 r), (19, .int .i64 i), (18, .int .i64 (A.len d)), (17, .lst 23 d), (5, .mp 0), (0, .clos g [])], [.map (.int .i64) 3 (T x.2)]⟩) (fun x => x.1 ≤ q ∧ Chg (XX ++ c.take x.1) x.2) (fun x => q - x.1) (0, m) ⟨Nat.zero_le _, by simpa using hm⟩ ?_ ?_
    · (cbv; repeat' apply And.intro); all_goals (try (first | trivial | rfl | (rw [X.a]; rfl)))
    rintro ⟨j, m2⟩ ⟨hj, hm2⟩
    dsimp only at hj hm2 ⊢
    cbv
    refine ⟨fun h3 => ?_, fun h3 => ?_⟩
    · have h6 : j < c.length := by
        have hrl' : Std.len r = Int.ofNat q := by rw [X.a] at hrl; exact hrl
        obtain rfl := X.a; simp only [hrl', Std_x0, Std_x1, Std_len, Std_lt, Std_le, Std_eq, Std_add, Std_sub, Std_mul, Std_not, Std_ite, Std_str, Std_bool, Std_int, Std_slen, Std_seq, Std_slt', Std_beq, Std_idx, Std_bnd, Std_same, Std_max', Std_min', Std_partI, Std_app, Std_len_app, Std_len_lit, Std_len_setc, List.length_take, List.length_drop, List.length_append, List.length_cons, List.length_nil, Int.toNat_natCast, Std_inr64, bNot, Int.ofNat_eq_natCast, Int.natCast_zero, decide_eq_true_eq, decide_eq_false_iff_not, Bool.not_eq_true, Bool.not_eq_false, Bool.not_eq_eq_eq_not, Bool.not_true, Bool.not_false, beq_iff_eq, beq_eq_false_iff_ne, ne_eq, Bool.true_eq_false, Bool.false_eq_true, cond_true, cond_false] at h3; omega
      have g6 : gx c (Int.ofNat j) = c[j] := gx_get j rfl h6
      have hb6 := hcm _ (List.getElem_mem h6)
      have hadd := hm2.add c[j]
      have hXl2 : (XX ++ c.take j).length ≤ i * 1000001 + 1000001 := by simp; omega
      have hxx : XX ++ c.take j ++ [c[j]] = XX ++ c.take (j+1) := by rw [take_succ' h6]; simp
      rw [hxx] at hadd
      obtain ⟨x, hx⟩ : ∃ x, x = c[j] := ⟨_, rfl⟩
      rw [← hx] at g6 hb6 hadd
      have hv1 := hm2.get x.1
      have hv1b := cEq_bound (X := XX ++ c.take j) (a := x.1)
      have hv2b := cEq_bound (X := XX ++ c.take j) (a := x.2)
      have hv2 := hm2.get x.2
      have hv2' : getM (setM x.1 (getM m2 x.1 + 1) m2) x.2 = getM m2 x.2 := by rw [getM_set, if_neg (by omega)]
      have hx1 : A.asInt (A.cell r (Int.ofNat j) 0) = x.1 := by rw [X.a, hr, Int.ofNat_eq_natCast, Std_x0]; have := g6; rw [Int.ofNat_eq_natCast] at this; rw [this]
      have hx2 : A.asInt (A.cell r (Int.ofNat j) 1) = x.2 := by rw [X.a, hr, Int.ofNat_eq_natCast, Std_x1]; have := g6; rw [Int.ofNat_eq_natCast] at this; rw [this]
      obtain ⟨v, hv⟩ : ∃ v, v = getM m2 x.1 := ⟨_, rfl⟩
      rw [← hv] at hadd hv2' hv1
      obtain ⟨m3, hm3⟩ : ∃ m3, m3 = setM x.1 (v + 1) m2 := ⟨_, rfl⟩
      rw [← hm3] at hadd hv2'
      obtain ⟨u, hu⟩ : ∃ u, u = getM m3 x.2 := ⟨_, rfl⟩
      rw [← hu] at hadd hv2'
      rw [← hv2'] at hv2
      obtain ⟨m4, hm4⟩ : ∃ m4, m4 = setM x.2 (u - 1) m3 := ⟨_, rfl⟩
      rw [← hm4] at hadd
      have fin1 : Std.mset (encL encX m2) (.int (Std.asInt (Std.cell r (j : Int) 0))) [.int (Std.add (Std.asInt (Std.mget (encL encX m2) (.int (Std.asInt (Std.cell r (j : Int) 0))) 0)) 1)] = encL encX m3 := by
        have e1 : Std.asInt (Std.cell r (j : Int) 0) = x.1 := by rw [X.a] at hx1; exact hx1
        rw [e1, Std_mget, Std_mset, Std_add, ← hv, hm3]
      have fin2 : Std.asInt (Std.mget (encL encX m3) (.int (Std.asInt (Std.cell r (j : Int) 1))) 0) = u := by
        have e1 : Std.asInt (Std.cell r (j : Int) 1) = x.2 := by rw [X.a] at hx2; exact hx2
        rw [e1, Std_mget, hu]
      have fin3 : Std.mset (encL encX m3) (.int (Std.asInt (Std.cell r (j : Int) 1))) [.int (Std.sub u 1)] = encL encX m4 := by
        have e1 : Std.asInt (Std.cell r (j : Int) 1) = x.2 := by rw [X.a] at hx2; exact hx2
        rw [e1, Std_mset, Std_sub, hm4]
      have fin0 : Std.asInt (Std.mget (encL encX m2) (.int (Std.asInt (Std.cell r (j : Int) 0))) 0) = v := by
        have e1 : Std.asInt (Std.cell r (j : Int) 0) = x.1 := by rw [X.a] at hx1; exact hx1
        rw [e1, Std_mget, hv]
      have hvb : -4294967296 ≤ v ∧ v ≤ 4294967296 := by omega
      have hub : -4294967296 ≤ u ∧ u ≤ 4294967296 := by omega
      clear hv hu hm3 hm4
      cbv
      repeat' (first | apply And.intro | exact fun (_ : False → False) => by kernel_rfl | (intro h2; cbv) | apply Or.inl)
      · have hrl' : Std.len r = Int.ofNat q := by rw [X.a] at hrl; exact hrl
        obtain rfl := X.a; simp only [hrl', Std_x0, Std_x1, Std_len, Std_lt, Std_le, Std_eq, Std_add, Std_sub, Std_mul, Std_not, Std_ite, Std_str, Std_bool, Std_int, Std_slen, Std_seq, Std_slt', Std_beq, Std_idx, Std_bnd, Std_same, Std_max', Std_min', Std_partI, Std_app, Std_len_app, Std_len_lit, Std_len_setc, List.length_take, List.length_drop, List.length_append, List.length_cons, List.length_nil, Int.toNat_natCast, Std_inr64, bNot, Int.ofNat_eq_natCast, Int.natCast_zero, decide_eq_true_eq, decide_eq_false_iff_not, Bool.not_eq_true, Bool.not_eq_false, Bool.not_eq_eq_eq_not, Bool.not_true, Bool.not_false, beq_iff_eq, beq_eq_false_iff_ne, ne_eq, Bool.true_eq_false, Bool.false_eq_true, cond_true, cond_false] at *; omega
      · obtain rfl := X.a; subst hT
        refine (show Std.inr .i64 (Std.add (Std.asInt (Std.mget (encL encX m2) (.int (Std.asInt (Std.cell r (j : Int) 0))) 0)) 1) from ?_)
        rw [fin0, Std_inr64, Std_add]; omega
      · obtain rfl := X.a; subst hT
        refine (show Std.inr .i64 (Std.sub (Std.asInt (Std.mget (Std.mset (encL encX m2) (.int (Std.asInt (Std.cell r (j : Int) 0))) [.int (Std.add (Std.asInt (Std.mget (encL encX m2) (.int (Std.asInt (Std.cell r (j : Int) 0))) 0)) 1)]) (.int (Std.asInt (Std.cell r (j : Int) 1))) 0)) 1) from ?_)
        rw [fin1, fin2, Std_inr64, Std_sub]; omega
      · obtain rfl := X.a; simp only [Std_x0, Std_x1, Std_len, Std_lt, Std_le, Std_eq, Std_add, Std_sub, Std_mul, Std_not, Std_ite, Std_str, Std_bool, Std_int, Std_slen, Std_seq, Std_slt', Std_beq, Std_idx, Std_bnd, Std_same, Std_max', Std_min', Std_partI, Std_app, Std_len_app, Std_len_lit, Std_len_setc, List.length_take, List.length_drop, List.length_append, List.length_cons, List.length_nil, Int.toNat_natCast, Std_inr64, bNot, Int.ofNat_eq_natCast, Int.natCast_zero, decide_eq_true_eq, decide_eq_false_iff_not, Bool.not_eq_true, Bool.not_eq_false, Bool.not_eq_eq_eq_not, Bool.not_true, Bool.not_false, beq_iff_eq, beq_eq_false_iff_ne, ne_eq, Bool.true_eq_false, Bool.false_eq_true, cond_true, cond_false]; omega
      · refine ⟨(j+1, m4), ⟨by dsimp only; omega, hadd⟩, by dsimp only; omega, ?_⟩
        (cbv; repeat' apply And.intro); all_goals (try (first | trivial | rfl | (rw [X.a]; rfl)))
        obtain rfl := X.a; subst hT
        refine (show Std.mset (Std.mset (encL encX m2) (.int (Std.asInt (Std.cell r (j : Int) 0))) [.int (Std.add (Std.asInt (Std.mget (encL encX m2) (.int (Std.asInt (Std.cell r (j : Int) 0))) 0)) 1)]) (.int (Std.asInt (Std.cell r (j : Int) 1))) [.int (Std.sub (Std.asInt (Std.mget (Std.mset (encL encX m2) (.int (Std.asInt (Std.cell r (j : Int) 0))) [.int (Std.add (Std.asInt (Std.mget (encL encX m2) (.int (Std.asInt (Std.cell r (j : Int) 0))) 0)) 1)]) (.int (Std.asInt (Std.cell r (j : Int) 1))) 0)) 1)] = encL encX m4 from ?_)
        rw [fin1, fin2, fin3]
    · have h6 : j = q := by
        have hrl' : Std.len r = Int.ofNat q := by rw [X.a] at hrl; exact hrl
        obtain rfl := X.a; simp only [hrl', Std_x0, Std_x1, Std_len, Std_lt, Std_le, Std_eq, Std_add, Std_sub, Std_mul, Std_not, Std_ite, Std_str, Std_bool, Std_int, Std_slen, Std_seq, Std_slt', Std_beq, Std_idx, Std_bnd, Std_same, Std_max', Std_min', Std_partI, Std_app, Std_len_app, Std_len_lit, Std_len_setc, List.length_take, List.length_drop, List.length_append, List.length_cons, List.length_nil, Int.toNat_natCast, Std_inr64, bNot, Int.ofNat_eq_natCast, Int.natCast_zero, decide_eq_true_eq, decide_eq_false_iff_not, Bool.not_eq_true, Bool.not_eq_false, Bool.not_eq_eq_eq_not, Bool.not_true, Bool.not_false, beq_iff_eq, beq_eq_false_iff_ne, ne_eq, Bool.true_eq_false, Bool.false_eq_true, cond_true, cond_false] at h3; omega
      subst h6
      rw [hq, List.take_length, ← hX5] at hm2
      cbv
      repeat' (first | apply And.intro | exact fun (_ : False → False) => by kernel_rfl | (intro h2; cbv) | apply Or.inl)
      · obtain rfl := X.a; simp only [Std_x0, Std_x1, Std_len, Std_lt, Std_le, Std_eq, Std_add, Std_sub, Std_mul, Std_not, Std_ite, Std_str, Std_bool, Std_int, Std_slen, Std_seq, Std_slt', Std_beq, Std_idx, Std_bnd, Std_same, Std_max', Std_min', Std_partI, Std_app, Std_len_app, Std_len_lit, Std_len_setc, List.length_take, List.length_drop, List.length_append, List.length_cons, List.length_nil, Int.toNat_natCast, Std_inr64, bNot, Int.ofNat_eq_natCast, Int.natCast_zero, decide_eq_true_eq, decide_eq_false_iff_not, Bool.not_eq_true, Bool.not_eq_false, Bool.not_eq_eq_eq_not, Bool.not_true, Bool.not_false, beq_iff_eq, beq_eq_false_iff_ne, ne_eq, Bool.true_eq_false, Bool.false_eq_true, cond_true, cond_false]; omega
      · refine ⟨(i+1, m2), ⟨by dsimp only; omega, hm2⟩, by dsimp only; omega, ?_⟩
        (cbv; repeat' apply And.intro); all_goals (try (first | trivial | rfl | (rw [X.a]; rfl)))
  · have h5 : i = l.length := by obtain rfl := X.a; simp only [hlen, Std_x0, Std_x1, Std_len, Std_lt, Std_le, Std_eq, Std_add, Std_sub, Std_mul, Std_not, Std_ite, Std_str, Std_bool, Std_int, Std_slen, Std_seq, Std_slt', Std_beq, Std_idx, Std_bnd, Std_same, Std_max', Std_min', Std_partI, Std_app, Std_len_app, Std_len_lit, Std_len_setc, List.length_take, List.length_drop, List.length_append, List.length_cons, List.length_nil, Int.toNat_natCast, Std_inr64, bNot, Int.ofNat_eq_natCast, Int.natCast_zero, decide_eq_true_eq, decide_eq_false_iff_not, Bool.not_eq_true, Bool.not_eq_false, Bool.not_eq_eq_eq_not, Bool.not_true, Bool.not_false, beq_iff_eq, beq_eq_false_iff_ne, ne_eq, Bool.true_eq_false, Bool.false_eq_true, cond_true, cond_false] at h1; omega
    rw [h5, List.take_length] at hm
    have hXok := allX_ok (l := l)
    have hXl : (allX l).length ≤ 100 * 1000001 := by
      have : ∀ k : List (List (Int × Int)), (allX k).length ≤ k.length * 1000001 := fun k => by
        induction k with
        | nil => simp [allX]
        | cons s k ih =>
          have := (can_canon s).length
          simp only [allX, List.map_cons, List.flatten_cons, List.length_append, List.length_cons] at ih ⊢; omega
      exact Nat.le_trans (this l) (Nat.mul_le_mul_right _ hl)
    obtain ⟨XX, hXX⟩ : ∃ XX, XX = allX l := ⟨_, rfl⟩
    rw [← hXX] at hm hXok hXl h
    have hml := hm.len
    obtain ⟨q, hq⟩ : ∃ q, q = m.length := ⟨_, rfl⟩
    have hTl : A.len (T m) = Int.ofNat q := by rw [X.a, hT, Std_len, hq]; rfl
    cbv
    refine ⟨?_, ?_, ?_⟩
    · obtain rfl := X.a; subst hT; simp only [Std_x0, Std_x1, Std_len, Std_lt, Std_le, Std_eq, Std_add, Std_sub, Std_mul, Std_not, Std_ite, Std_str, Std_bool, Std_int, Std_slen, Std_seq, Std_slt', Std_beq, Std_idx, Std_bnd, Std_same, Std_max', Std_min', Std_partI, Std_app, Std_len_app, Std_len_lit, Std_len_setc, List.length_take, List.length_drop, List.length_append, List.length_cons, List.length_nil, Int.toNat_natCast, Std_inr64, bNot, Int.ofNat_eq_natCast, Int.natCast_zero, decide_eq_true_eq, decide_eq_false_iff_not, Bool.not_eq_true, Bool.not_eq_false, Bool.not_eq_eq_eq_not, Bool.not_true, Bool.not_false, beq_iff_eq, beq_eq_false_iff_ne, ne_eq, Bool.true_eq_false, Bool.false_eq_true, cond_true, cond_false]; omega
    · obtain rfl := X.a; subst hT; simp only [Std_x0, Std_x1, Std_len, Std_lt, Std_le, Std_eq, Std_add, Std_sub, Std_mul, Std_not, Std_ite, Std_str, Std_bool, Std_int, Std_slen, Std_seq, Std_slt', Std_beq, Std_idx, Std_bnd, Std_same, Std_max', Std_min', Std_partI, Std_app, Std_len_app, Std_len_lit, Std_len_setc, List.length_take, List.length_drop, List.length_append, List.length_cons, List.length_nil, Int.toNat_natCast, Std_inr64, bNot, Int.ofNat_eq_natCast, Int.natCast_zero, decide_eq_true_eq, decide_eq_false_iff_not, Bool.not_eq_true, Bool.not_eq_false, Bool.not_eq_eq_eq_not, Bool.not_true, Bool.not_false, beq_iff_eq, beq_eq_false_iff_ne, ne_eq, Bool.true_eq_false, Bool.false_eq_true, cond_true, cond_false]; omega
    refine X.loop (fun (ks : List Int) => ⟨[(46, .it 2), (10, .row 3 1), (5, .mp 0), (0, .clos g [])], [.map (.int .i64) 3 (T m), .row 3 (U (ks.map fun j => (gx m j).1)) true, .iter 0 (U ks)]⟩) (fun ks => ks.Nodup ∧ ∀ j ∈ ks, 0 ≤ j ∧ j < m.length) (fun ks => m.length - ks.length) [] ⟨List.nodup_nil, by simp⟩ ?_ ?_
    · (cbv; repeat' apply And.intro); all_goals (try (first | trivial | rfl | (rw [X.a]; rfl)))
      · rw [X.a, hU]; rfl
      · rw [hU]; rfl
    rintro ks ⟨hnd, hrg⟩
    have hkl := nodup_len hnd hrg
    cbv
    refine ⟨fun h7 => ?_, fun j h7 => ?_⟩
    · have hall : ∀ j : Nat, j < m.length → (j : Int) ∈ ks := by rw [X.a, hT, hU] at h7; exact Std_allSeen h7
      have hperm := seen_all (m := m) (fun j => (gx m j).1) hnd hrg hall
      rw [range_keys] at hperm
      have hbl : (ks.map fun j => (gx m j).1).length = m.length := by rw [hperm.length_eq]; simp
      obtain ⟨b, hb⟩ : ∃ b, b = ks.map fun j => (gx m j).1 := ⟨_, rfl⟩
      rw [← hb] at hperm hbl ⊢
      cbv
      refine X.call (F87 (l := b) (by rw [hU]) (by omega) fun S rS hpS hsS hrS => ?_)
      have hends := ends_of hm hXok (hpS.trans hperm) hsS
      have hSl : S.length = m.length := by rw [hpS.length_eq, hbl]
      obtain ⟨htwo, _⟩ := hends.two
      have hget := hm.get
      have hkeys := hm.keys
      have hrSl : A.len rS = Int.ofNat S.length := by rw [X.a, hrS]; exact encJ_len
      obtain ⟨n2, hn2⟩ : ∃ n2, n2 = S.length := ⟨_, rfl⟩
      rw [← hn2] at hrSl
      cbv
      repeat' (first | apply And.intro | exact fun (_ : False → False) => by kernel_rfl | (intro h2; cbv) | apply Or.inl)
      · obtain rfl := X.a
        have hrSl' : Std.len rS = Int.ofNat n2 := hrSl
        simp only [hrSl', Std_x0, Std_x1, Std_len, Std_lt, Std_le, Std_eq, Std_add, Std_sub, Std_mul, Std_not, Std_ite, Std_str, Std_bool, Std_int, Std_slen, Std_seq, Std_slt', Std_beq, Std_idx, Std_bnd, Std_same, Std_max', Std_min', Std_partI, Std_app, Std_len_app, Std_len_lit, Std_len_setc, List.length_take, List.length_drop, List.length_append, List.length_cons, List.length_nil, Int.toNat_natCast, Std_inr64, bNot, Int.ofNat_eq_natCast, Int.natCast_zero, decide_eq_true_eq, decide_eq_false_iff_not, Bool.not_eq_true, Bool.not_eq_false, Bool.not_eq_eq_eq_not, Bool.not_true, Bool.not_false, beq_iff_eq, beq_eq_false_iff_ne, ne_eq, Bool.true_eq_false, Bool.false_eq_true, cond_true, cond_false]; omega
      refine X.loop (fun (x : Nat × Int × List (Int × Int)) => ⟨[(60, .int .i64 x.1), (59, .int .i64 (A.sub (A.len rS) 1)), (13, .int .i64 x.2.1), (12, .row 65 3), (10, .row 3 1), (5, .mp 0), (0, .clos g [])], [.map (.int .i64) 3 (T m), .row 3 rS true, .dead, .row 65 (T x.2.2) true]⟩) (fun x => x.1 + 1 ≤ n2 ∧ x.2.2.length ≤ x.1 ∧ Swp XX S kp x.1 x.2.1 x.2.2) (fun x => n2 - x.1) (0, 0, []) ⟨by omega, Nat.zero_le _, Swp.start hends⟩ ?_ ?_
      · (cbv; repeat' apply And.intro); all_goals (try (first | trivial | rfl | (rw [X.a]; rfl)))
        rw [hT]; rfl
      rintro ⟨i3, c3, o3⟩ ⟨hi3, ho3, hsw⟩
      dsimp only at hi3 ho3 hsw ⊢
      have hi4 : i3 < S.length := by omega
      have hcell : Std.asInt (Std.cell rS (Int.ofNat i3) 0) = S[i3] := by
        rw [hrS, encJ_cell]; simp [List.getD_eq_getElem?_getD, hi4]
      have hval : Std.asInt (Std.mget (encL encX m) (.int (Std.asInt (Std.cell rS (Int.ofNat i3) 0))) 0) = getM m S[i3] := by rw [hcell, Std_mget]
      have hcn := hsw.cnt hi4
      have hgv := hm.get S[i3]
      have hb1 := cLe_bound (X := XX) (a := S[i3])
      have hb2' := cEq_bound (X := XX) (a := S[i3])
      obtain ⟨v, hv⟩ : ∃ v, v = getM m S[i3] := ⟨_, rfl⟩
      rw [← hv] at hval hgv
      have hvb : -4294967296 ≤ c3 + v ∧ c3 + v ≤ 4294967296 := by omega
      cbv
      refine ⟨fun h9 => ?_, fun h9 => ?_⟩
      · have hi5 : i3 + 1 < S.length := by
          have hrSl' : Std.len rS = Int.ofNat n2 := by rw [X.a] at hrSl; exact hrSl
          obtain rfl := X.a; simp only [hrSl', Std_x0, Std_x1, Std_len, Std_lt, Std_le, Std_eq, Std_add, Std_sub, Std_mul, Std_not, Std_ite, Std_str, Std_bool, Std_int, Std_slen, Std_seq, Std_slt', Std_beq, Std_idx, Std_bnd, Std_same, Std_max', Std_min', Std_partI, Std_app, Std_len_app, Std_len_lit, Std_len_setc, List.length_take, List.length_drop, List.length_append, List.length_cons, List.length_nil, Int.toNat_natCast, Std_inr64, bNot, Int.ofNat_eq_natCast, Int.natCast_zero, decide_eq_true_eq, decide_eq_false_iff_not, Bool.not_eq_true, Bool.not_eq_false, Bool.not_eq_eq_eq_not, Bool.not_true, Bool.not_false, beq_iff_eq, beq_eq_false_iff_ne, ne_eq, Bool.true_eq_false, Bool.false_eq_true, cond_true, cond_false] at h9; omega
        have hcell2 : Std.asInt (Std.cell rS (Std.add (Int.ofNat i3) 1) 0) = S[i3+1] := by
          rw [hrS, encJ_cell]; simp [List.getD_eq_getElem?_getD, hi5, Std_add]
        have hstep := hsw.step hends hi5 (c' := c3 + v) (by rw [hgv])
        obtain ⟨s1, hs1⟩ : ∃ s, s = S[i3] := ⟨_, rfl⟩
        obtain ⟨s2, hs2⟩ : ∃ s, s = S[i3+1] := ⟨_, rfl⟩
        rw [← hs1, ← hs2] at hstep
        rw [← hs1] at hcell hgv hv
        rw [← hs2] at hcell2
        cbv
        repeat' (first | apply And.intro | exact fun (_ : False → False) => by kernel_rfl | (intro h2; cbv) | apply Or.inl)
        · obtain rfl := X.a
          have hrSl' : Std.len rS = Int.ofNat n2 := hrSl
          simp only [hrSl', Std_x0, Std_x1, Std_len, Std_lt, Std_le, Std_eq, Std_add, Std_sub, Std_mul, Std_not, Std_ite, Std_str, Std_bool, Std_int, Std_slen, Std_seq, Std_slt', Std_beq, Std_idx, Std_bnd, Std_same, Std_max', Std_min', Std_partI, Std_app, Std_len_app, Std_len_lit, Std_len_setc, List.length_take, List.length_drop, List.length_append, List.length_cons, List.length_nil, Int.toNat_natCast, Std_inr64, bNot, Int.ofNat_eq_natCast, Int.natCast_zero, decide_eq_true_eq, decide_eq_false_iff_not, Bool.not_eq_true, Bool.not_eq_false, Bool.not_eq_eq_eq_not, Bool.not_true, Bool.not_false, beq_iff_eq, beq_eq_false_iff_ne, ne_eq, Bool.true_eq_false, Bool.false_eq_true, cond_true, cond_false] at *; omega
        · obtain rfl := X.a; subst hT
          refine (show Std.inr .i64 (Std.add c3 (Std.asInt (Std.mget (encL encX m) (.int (Std.asInt (Std.cell rS (Int.ofNat i3) 0))) 0))) from ?_)
          rw [hval, Std_inr64, Std_add]; omega
        refine X.call (hkeep _ _ fun b hb => ?_)
        have hb3 : b = kp (c3 + v) := by
          rw [hb]; obtain rfl := X.a; subst hT
          show kp (Std.add c3 (Std.asInt (Std.mget (encL encX m) (.int (Std.asInt (Std.cell rS (Int.ofNat i3) 0))) 0))) = _
          rw [hval, Std_add]
        have hc3 : A.add c3 (A.asInt (A.mget (T m) (.int (A.asInt (A.cell rS (Int.ofNat i3) 0))) 0)) = c3 + v := by rw [X.a, hT, hval, Std_add]
        cbv
        repeat' (first | apply And.intro | exact fun (_ : False → False) => by kernel_rfl | (intro h2; cbv) | apply Or.inl)
        all_goals try (
          obtain rfl := X.a
          have hrSl' : Std.len rS = Int.ofNat n2 := hrSl
          subst hT
          simp only [hrSl', Std_x0, Std_x1, Std_len, Std_lt, Std_le, Std_eq, Std_add, Std_sub, Std_mul, Std_not, Std_ite, Std_str, Std_bool, Std_int, Std_slen, Std_seq, Std_slt', Std_beq, Std_idx, Std_bnd, Std_same, Std_max', Std_min', Std_partI, Std_app, Std_len_app, Std_len_lit, Std_len_setc, List.length_take, List.length_drop, List.length_append, List.length_cons, List.length_nil, Int.toNat_natCast, Std_inr64, bNot, Int.ofNat_eq_natCast, Int.natCast_zero, decide_eq_true_eq, decide_eq_false_iff_not, Bool.not_eq_true, Bool.not_eq_false, Bool.not_eq_eq_eq_not, Bool.not_true, Bool.not_false, beq_iff_eq, beq_eq_false_iff_ne, ne_eq, Bool.true_eq_false, Bool.false_eq_true, cond_true, cond_false] at * <;> omega)
        · have hbt : kp (c3 + v) = true := by rw [← hb3]; assumption
          rw [if_pos hbt] at hstep
          obtain ⟨c4, hc4⟩ : ∃ c4, c4 = c3 + v := ⟨_, rfl⟩
          obtain ⟨o4, ho4⟩ : ∃ o4, o4 = o3 ++ [(s1, s2)] := ⟨_, rfl⟩
          rw [← hc4, ← ho4] at hstep
          rw [← hc4] at hc3
          refine ⟨(i3+1, c4, o4), ⟨by dsimp only; omega, by dsimp only; rw [ho4]; simp; omega, hstep⟩, by dsimp only; omega, ?_⟩
          (cbv; repeat' apply And.intro); all_goals (try (first | trivial | rfl | (rw [X.a]; rfl)))
          obtain rfl := X.a; subst hT; subst ho4
          refine Std_app' rfl (lit1e (s1, s2) ?_)
          show [D.int (Std.asInt (Std.cell rS (Int.ofNat i3) 0)), D.int (Std.asInt (Std.cell rS (Std.add (Int.ofNat i3) 1) 0))] = _
          rw [hcell, hcell2]; rfl
        · have hbt : ¬ kp (c3 + v) = true := by rw [← hb3]; simp; assumption
          rw [if_neg hbt, List.append_nil] at hstep
          obtain ⟨c4, hc4⟩ : ∃ c4, c4 = c3 + v := ⟨_, rfl⟩
          rw [← hc4] at hstep
          rw [← hc4] at hc3
          refine ⟨(i3+1, c4, o3), ⟨by dsimp only; omega, by dsimp only; omega, hstep⟩, by dsimp only; omega, ?_⟩
          (cbv; repeat' apply And.intro); all_goals (try (first | trivial | rfl | (rw [X.a]; rfl)))
      · have hi5 : i3 + 1 = S.length := by
          have hrSl' : Std.len rS = Int.ofNat n2 := by rw [X.a] at hrSl; exact hrSl
          obtain rfl := X.a; simp only [hrSl', Std_x0, Std_x1, Std_len, Std_lt, Std_le, Std_eq, Std_add, Std_sub, Std_mul, Std_not, Std_ite, Std_str, Std_bool, Std_int, Std_slen, Std_seq, Std_slt', Std_beq, Std_idx, Std_bnd, Std_same, Std_max', Std_min', Std_partI, Std_app, Std_len_app, Std_len_lit, Std_len_setc, List.length_take, List.length_drop, List.length_append, List.length_cons, List.length_nil, Int.toNat_natCast, Std_inr64, bNot, Int.ofNat_eq_natCast, Int.natCast_zero, decide_eq_true_eq, decide_eq_false_iff_not, Bool.not_eq_true, Bool.not_eq_false, Bool.not_eq_eq_eq_not, Bool.not_true, Bool.not_false, beq_iff_eq, beq_eq_false_iff_ne, ne_eq, Bool.true_eq_false, Bool.false_eq_true, cond_true, cond_false] at h9; omega
        have hdone := hsw.done hends hi5
        cbv
        refine X.call (F83 (s := o3) (by rw [hT]) (by omega) fun r2 hr2 => ?_)
        cbv
        exact h _ _ (can_canon o3) hdone hr2
    · have h8 : 0 ≤ j ∧ j < m.length ∧ j ∉ ks := by rw [X.a, hT, hU] at h7; exact Std_unseen h7
      have hnew : (ks ++ [j]).Nodup := by
        rw [List.nodup_append]
        refine ⟨hnd, by simp, ?_⟩
        intro a ha b hb hab
        simp only [List.mem_singleton] at hb
        subst hb; subst hab; exact h8.2.2 ha
      have hnr : ∀ i ∈ ks ++ [j], 0 ≤ i ∧ i < m.length := by
        intro i hi
        rcases List.mem_append.1 hi with hi | hi
        · exact hrg i hi
        · simp only [List.mem_singleton] at hi; subst hi; exact ⟨h8.1, h8.2.1⟩
      have hkl2 := nodup_len hnew hnr
      have hmap : (ks ++ [j]).map (fun j => (gx m j).1) = ks.map (fun j => (gx m j).1) ++ [(gx m j).1] := by simp
      obtain ⟨k2, hk2⟩ : ∃ k2, k2 = ks ++ [j] := ⟨_, rfl⟩
      rw [← hk2] at hnew hnr hkl2 hmap
      have hkn : k2.length = ks.length + 1 := by rw [hk2]; simp
      obtain ⟨b, hb⟩ : ∃ b, b = ks.map fun j => (gx m j).1 := ⟨_, rfl⟩
      have hbl : b.length = ks.length := by rw [hb]; simp
      obtain ⟨b2, hb2⟩ : ∃ b2, b2 = k2.map fun j => (gx m j).1 := ⟨_, rfl⟩
      rw [← hb, ← hb2] at hmap
      rw [← hb]
      have hlast : Std.last (Std.see (encJ ks) j) = j := by rw [Std_see, Std_last]
      have hsee : Std.see (encJ ks) j = encJ k2 := by rw [Std_see, hk2]
      cbv
      repeat' (first | apply And.intro | exact fun (_ : False → False) => by kernel_rfl | (intro h2; cbv) | apply Or.inl)
      · obtain rfl := X.a; subst hU
        refine (show Std.idx 0 (Std.len (Std.see (encJ ks) j)) from ?_)
        rw [hsee, encJ_len, Std_idx]; omega
      · obtain rfl := X.a; subst hU; subst hT
        refine (show Std.idx (Std.last (Std.see (encJ ks) j)) (Std.len (encL encX m)) from ?_)
        rw [hlast, Std_len, Std_idx]; exact ⟨h8.1, h8.2.1⟩
      · obtain rfl := X.a; subst hU
        have : Std.len (encJ b) = (b.length : Int) := encJ_len
        simp only [this, Std_x0, Std_x1, Std_len, Std_lt, Std_le, Std_eq, Std_add, Std_sub, Std_mul, Std_not, Std_ite, Std_str, Std_bool, Std_int, Std_slen, Std_seq, Std_slt', Std_beq, Std_idx, Std_bnd, Std_same, Std_max', Std_min', Std_partI, Std_app, Std_len_app, Std_len_lit, Std_len_setc, List.length_take, List.length_drop, List.length_append, List.length_cons, List.length_nil, Int.toNat_natCast, Std_inr64, bNot, Int.ofNat_eq_natCast, Int.natCast_zero, decide_eq_true_eq, decide_eq_false_iff_not, Bool.not_eq_true, Bool.not_eq_false, Bool.not_eq_eq_eq_not, Bool.not_true, Bool.not_false, beq_iff_eq, beq_eq_false_iff_ne, ne_eq, Bool.true_eq_false, Bool.false_eq_true, cond_true, cond_false]; omega
      · refine ⟨k2, ⟨hnew, hnr⟩, by omega, ?_⟩
        rw [← hb2]
        (cbv; repeat' apply And.intro); all_goals (try (first | trivial | rfl | (rw [X.a]; rfl)))
        · obtain rfl := X.a; subst hU; subst hT
          rw [hmap]
          refine Std_app' rfl (lit1e (gx m j).1 ?_)
          show [D.int (Std.asInt (Std.cell (encL encX m) (Std.last (Std.see (encJ ks) j)) 0))] = _
          rw [hlast, Std_x0]
        · obtain rfl := X.a; subst hU; exact hsee

set_option maxRecDepth 100000 in
set_option maxHeartbeats 4000000 in
theorem F71c {g : FuncId} {e : D} {kp : Int → Bool} {l : List (List (Int × Int))} {d : D} {K : PV → List Ob → Prop} (hd : d = encSS l) (hl : l.length ≤ 100) (hls : ∀ s ∈ l, s.length ≤ 2000000)
    (hkeep : ∀ (n : Int) (K' : PV → List Ob → Prop), (∀ b, b = kp n → K' (.bool b) []) → FC Tryz.prog tt g [] (.int .i64 n :: [.pptr [.lst 23 e] 0]) K')
    (h : ∀ c r, Can c → (∀ p, pl c p ↔ 0 ≤ p ∧ p < 1000000 ∧ kp (inC (allX l) p) = true) → r = encL encX c → K (.lst 65 r) []) : FC Tryz.prog tt 71 [] [.clos g [.pptr [.lst 23 e] 0], .lst 23 d] K := by
  refine FC.enter (G := g71) tt_ok mixed ⟨Tryz.func71, by rfl, rfl⟩ rfl rfl rfl ?_
  intro A C L X
  obtain ⟨T, hT⟩ : ∃ T, T =  encL encX := ⟨_, rfl⟩
  obtain ⟨U, hU⟩ : ∃ T, T =  encJ := ⟨_, rfl⟩
  obtain ⟨n, hn⟩ : ∃ n, n = l.length := ⟨_, rfl⟩
  have hlen : Std.len d = Int.ofNat n := by rw [hd, encSS_len, hn]; rfl
  cbv
  refine X.loop (fun (x : Nat × List (Int × Int)) => ⟨[(19, .int .i64 x.1), (18, .int .i64 (A.len d)), (17, .lst 23 d), (5, .mp 0), (0, .clos g [.pptr [.lst 23 e] 0])], [.map (.int .i64) 3 (T x.2)]⟩) (fun x => x.1 ≤ n ∧ Chg (allX (l.take x.1)) x.2) (fun x => n - x.1) (0, setM 1000000 0 (setM 0 0 [])) ⟨Nat.zero_le _, Chg.start⟩ ?_ ?_
  · (cbv; repeat' apply And.intro); all_goals (try (first | trivial | rfl | (rw [X.a]; rfl)))
    obtain rfl := X.a; subst hT
    have e0 : Std.mset (.list []) (.int 0) [.int 0] = encL encX (setM 0 0 []) := Std_mset (m := [])
    have e1 := Std_mset (m := setM 0 0 []) (k := 1000000) (v := 0)
    rw [← e0] at e1
    exact e1
  rintro ⟨i, m⟩ ⟨hi, hm⟩
  dsimp only at hi hm ⊢
  cbv
  refine ⟨fun h1 => ?_, fun h1 => ?_⟩
  · have h5 : i < l.length := by obtain rfl := X.a; simp only [hlen, Std_x0, Std_x1, Std_len, Std_lt, Std_le, Std_eq, Std_add, Std_sub, Std_mul, Std_not, Std_ite, Std_str, Std_bool, Std_int, Std_slen, Std_seq, Std_slt', Std_beq, Std_idx, Std_bnd, Std_same, Std_max', Std_min', Std_partI, Std_app, Std_len_app, Std_len_lit, Std_len_setc, List.length_take, List.length_drop, List.length_append, List.length_cons, List.length_nil, Int.toNat_natCast, Std_inr64, bNot, Int.ofNat_eq_natCast, Int.natCast_zero, decide_eq_true_eq, decide_eq_false_iff_not, Bool.not_eq_true, Bool.not_eq_false, Bool.not_eq_eq_eq_not, Bool.not_true, Bool.not_false, beq_iff_eq, beq_eq_false_iff_ne, ne_eq, Bool.true_eq_false, Bool.false_eq_true, cond_true, cond_false] at h1; omega
    have hc5 : Std.cell d (Int.ofNat i) 0 = encL encX l[i] := by rw [hd]; exact encSS_cell i rfl h5
    have hs5 : l[i].length ≤ 2000000 := hls _ (List.getElem_mem h5)
    have hX5 : allX (l.take (i+1)) = allX (l.take i) ++ canon l[i] := by rw [take_succ' h5]; simp only [allX, List.map_append, List.map_cons, List.map_nil, List.flatten_append, List.flatten_cons, List.flatten_nil, List.append_nil]
    have hXl : (allX (l.take i)).length ≤ i * 1000001 := by
      have : ∀ k : List (List (Int × Int)), (allX k).length ≤ k.length * 1000001 := fun k => by
        induction k with
        | nil => simp [allX]
        | cons s k ih =>
          have := (can_canon s).length
          simp only [allX, List.map_cons, List.flatten_cons, List.length_append, List.length_cons] at ih ⊢; omega
      have := this (l.take i); rw [List.length_take, Nat.min_eq_left (by omega)] at this; exact this
    obtain ⟨s, hs⟩ : ∃ s, s = l[i] := ⟨_, rfl⟩
    rw [← hs] at hc5 hs5 hX5
    have hcl := (can_canon s).length
    have hcm : ∀ x ∈ canon s, 0 ≤ x.1 ∧ x.1 < x.2 ∧ x.2 ≤ 1000000 := fun x hx => by have := CanF.mem (can_canon s) hx; omega
    obtain ⟨c, hc⟩ : ∃ c, c = canon s := ⟨_, rfl⟩
    have hcr : encL encX (canon s) = encL encX c := by rw [hc]
    rw [← hc] at hX5 hcl hcm
    obtain ⟨XX, hXX⟩ : ∃ XX, XX = allX (l.take i) := ⟨_, rfl⟩
    rw [← hXX] at hm hX5 hXl
    cbv
    refine ⟨?_, ?_⟩
    · obtain rfl := X.a; simp only [hlen, Std_x0, Std_x1, Std_len, Std_lt, Std_le, Std_eq, Std_add, Std_sub, Std_mul, Std_not, Std_ite, Std_str, Std_bool, Std_int, Std_slen, Std_seq, Std_slt', Std_beq, Std_idx, Std_bnd, Std_same, Std_max', Std_min', Std_partI, Std_app, Std_len_app, Std_len_lit, Std_len_setc, List.length_take, List.length_drop, List.length_append, List.length_cons, List.length_nil, Int.toNat_natCast, Std_inr64, bNot, Int.ofNat_eq_natCast, Int.natCast_zero, decide_eq_true_eq, decide_eq_false_iff_not, Bool.not_eq_true, Bool.not_eq_false, Bool.not_eq_eq_eq_not, Bool.not_true, Bool.not_false, beq_iff_eq, beq_eq_false_iff_ne, ne_eq, Bool.true_eq_false, Bool.false_eq_true, cond_true, cond_false] at *; omega
    refine X.call (F83 (s := s) (by rw [X.a]; exact hc5) (by omega) fun r hr => ?_)
    rw [hcr] at hr
    have hrl : A.len r = Int.ofNat c.length := by rw [X.a, hr]; exact Std_len
    obtain ⟨q, hq⟩ : ∃ q, q = c.length := ⟨_, rfl⟩
    rw [← hq] at hrl
    cbv
    refine X.loop (fun (x : Nat × List (Int × Int)) => ⟨[(26, .int .i64 x.1), (25, .int .i64 (A.len r)), (24, .lst 65 r), (19, .int .i64 i), (18, .int .i64 (A.len d)), (17, .lst 23 d), (5, .mp 0), (0, .clos g [.pptr [.lst 23 e] 0])], [.map (.int .i64) 3 (T x.2)]⟩) (fun x => x.1 ≤ q ∧ Chg (XX ++ c.take x.1) x.2) (fun x => q - x.1) (0, m) ⟨Nat.zero_le _, by simpa using hm⟩ ?_ ?_
    · (cbv; repeat' apply And.intro); all_goals (try (first | trivial | rfl | (rw [X.a]; rfl)))
    rintro ⟨j, m2⟩ ⟨hj, hm2⟩
    dsimp only at hj hm2 ⊢
    cbv
    refine ⟨fun h3 => ?_, fun h3 => ?_⟩
    · have h6 : j < c.length := by
        have hrl' : Std.len r = Int.ofNat q := by rw [X.a] at hrl; exact hrl
        obtain rfl := X.a; simp only [hrl', Std_x0, Std_x1, Std_len, Std_lt, Std_le, Std_eq, Std_add, Std_sub, Std_mul, Std_not, Std_ite, Std_str, Std_bool, Std_int, Std_slen, Std_seq, Std_slt', Std_beq, Std_idx, Std_bnd, Std_same, Std_max', Std_min', Std_partI, Std_app, Std_len_app, Std_len_lit, Std_len_setc, List.length_take, List.length_drop, List.length_append, List.length_cons, List.length_nil, Int.toNat_natCast, Std_inr64, bNot, Int.ofNat_eq_natCast, Int.natCast_zero, decide_eq_true_eq, decide_eq_false_iff_not, Bool.not_eq_true, Bool.not_eq_false, Bool.not_eq_eq_eq_not, Bool.not_true, Bool.not_false, beq_iff_eq, beq_eq_false_iff_ne, ne_eq, Bool.true_eq_false, Bool.false_eq_true, cond_true, cond_false] at h3; omega
      have g6 : gx c (Int.ofNat j) = c[j] := gx_get j rfl h6
      have hb6 := hcm _ (List.getElem_mem h6)
      have hadd := hm2.add c[j]
      have hXl2 : (XX ++ c.take j).length ≤ i * 1000001 + 1000001 := by simp; omega
      have hxx : XX ++ c.take j ++ [c[j]] = XX ++ c.take (j+1) := by rw [take_succ' h6]; simp
      rw [hxx] at hadd
      obtain ⟨x, hx⟩ : ∃ x, x = c[j] := ⟨_, rfl⟩
      rw [← hx] at g6 hb6 hadd
      have hv1 := hm2.get x.1
      have hv1b := cEq_bound (X := XX ++ c.take j) (a := x.1)
      have hv2b := cEq_bound (X := XX ++ c.take j) (a := x.2)
      have hv2 := hm2.get x.2
      have hv2' : getM (setM x.1 (getM m2 x.1 + 1) m2) x.2 = getM m2 x.2 := by rw [getM_set, if_neg (by omega)]
      have hx1 : A.asInt (A.cell r (Int.ofNat j) 0) = x.1 := by rw [X.a, hr, Int.ofNat_eq_natCast, Std_x0]; have := g6; rw [Int.ofNat_eq_natCast] at this; rw [this]
      have hx2 : A.asInt (A.cell r (Int.ofNat j) 1) = x.2 := by rw [X.a, hr, Int.ofNat_eq_natCast, Std_x1]; have := g6; rw [Int.ofNat_eq_natCast] at this; rw [this]
      obtain ⟨v, hv⟩ : ∃ v, v = getM m2 x.1 := ⟨_, rfl⟩
      rw [← hv] at hadd hv2' hv1
      obtain ⟨m3, hm3⟩ : ∃ m3, m3 = setM x.1 (v + 1) m2 := ⟨_, rfl⟩
      rw [← hm3] at hadd hv2'
      obtain ⟨u, hu⟩ : ∃ u, u = getM m3 x.2 := ⟨_, rfl⟩
      rw [← hu] at hadd hv2'
      rw [← hv2'] at hv2
      obtain ⟨m4, hm4⟩ : ∃ m4, m4 = setM x.2 (u - 1) m3 := ⟨_, rfl⟩
      rw [← hm4] at hadd
      have fin1 : Std.mset (encL encX m2) (.int (Std.asInt (Std.cell r (j : Int) 0))) [.int (Std.add (Std.asInt (Std.mget (encL encX m2) (.int (Std.asInt (Std.cell r (j : Int) 0))) 0)) 1)] = encL encX m3 := by
        have e1 : Std.asInt (Std.cell r (j : Int) 0) = x.1 := by rw [X.a] at hx1; exact hx1
        rw [e1, Std_mget, Std_mset, Std_add, ← hv, hm3]
      have fin2 : Std.asInt (Std.mget (encL encX m3) (.int (Std.asInt (Std.cell r (j : Int) 1))) 0) = u := by
        have e1 : Std.asInt (Std.cell r (j : Int) 1) = x.2 := by rw [X.a] at hx2; exact hx2
        rw [e1, Std_mget, hu]
      have fin3 : Std.mset (encL encX m3) (.int (Std.asInt (Std.cell r (j : Int) 1))) [.int (Std.sub u 1)] = encL encX m4 := by
        have e1 : Std.asInt (Std.cell r (j : Int) 1) = x.2 := by rw [X.a] at hx2; exact hx2
        rw [e1, Std_mset, Std_sub, hm4]
      have fin0 : Std.asInt (Std.mget (encL encX m2) (.int (Std.asInt (Std.cell r (j : Int) 0))) 0) = v := by
        have e1 : Std.asInt (Std.cell r (j : Int) 0) = x.1 := by rw [X.a] at hx1; exact hx1
        rw [e1, Std_mget, hv]
      have hvb : -4294967296 ≤ v ∧ v ≤ 4294967296 := by omega
      have hub : -4294967296 ≤ u ∧ u ≤ 4294967296 := by omega
      clear hv hu hm3 hm4
      cbv
      repeat' (first | apply And.intro | exact fun (_ : False → False) => by kernel_rfl | (intro h2; cbv) | apply Or.inl)
      · have hrl' : Std.len r = Int.ofNat q := by rw [X.a] at hrl; exact hrl
        obtain rfl := X.a; simp only [hrl', Std_x0, Std_x1, Std_len, Std_lt, Std_le, Std_eq, Std_add, Std_sub, Std_mul, Std_not, Std_ite, Std_str, Std_bool, Std_int, Std_slen, Std_seq, Std_slt', Std_beq, Std_idx, Std_bnd, Std_same, Std_max', Std_min', Std_partI, Std_app, Std_len_app, Std_len_lit, Std_len_setc, List.length_take, List.length_drop, List.length_append, List.length_cons, List.length_nil, Int.toNat_natCast, Std_inr64, bNot, Int.ofNat_eq_natCast, Int.natCast_zero, decide_eq_true_eq, decide_eq_false_iff_not, Bool.not_eq_true, Bool.not_eq_false, Bool.not_eq_eq_eq_not, Bool.not_true, Bool.not_false, beq_iff_eq, beq_eq_false_iff_ne, ne_eq, Bool.true_eq_false, Bool.false_eq_true, cond_true, cond_false] at *; omega
      · obtain rfl := X.a; subst hT
        refine (show Std.inr .i64 (Std.add (Std.asInt (Std.mget (encL encX m2) (.int (Std.asInt (Std.cell r (j : Int) 0))) 0)) 1) from ?_)
        rw [fin0, Std_inr64, Std_add]; omega
      · obtain rfl := X.a; subst hT
        refine (show Std.inr .i64 (Std.sub (Std.asInt (Std.mget (Std.mset (encL encX m2) (.int (Std.asInt (Std.cell r (j : Int) 0))) [.int (Std.add (Std.asInt (Std.mget (encL encX m2) (.int (Std.asInt (Std.cell r (j : Int) 0))) 0)) 1)]) (.int (Std.asInt (Std.cell r (j : Int) 1))) 0)) 1) from ?_)
        rw [fin1, fin2, Std_inr64, Std_sub]; omega
      · obtain rfl := X.a; simp only [Std_x0, Std_x1, Std_len, Std_lt, Std_le, Std_eq, Std_add, Std_sub, Std_mul, Std_not, Std_ite, Std_str, Std_bool, Std_int, Std_slen, Std_seq, Std_slt', Std_beq, Std_idx, Std_bnd, Std_same, Std_max', Std_min', Std_partI, Std_app, Std_len_app, Std_len_lit, Std_len_setc, List.length_take, List.length_drop, List.length_append, List.length_cons, List.length_nil, Int.toNat_natCast, Std_inr64, bNot, Int.ofNat_eq_natCast, Int.natCast_zero, decide_eq_true_eq, decide_eq_false_iff_not, Bool.not_eq_true, Bool.not_eq_false, Bool.not_eq_eq_eq_not, Bool.not_true, Bool.not_false, beq_iff_eq, beq_eq_false_iff_ne, ne_eq, Bool.true_eq_false, Bool.false_eq_true, cond_true, cond_false]; omega
      · refine ⟨(j+1, m4), ⟨by dsimp only; omega, hadd⟩, by dsimp only; omega, ?_⟩
        (cbv; repeat' apply And.intro); all_goals (try (first | trivial | rfl | (rw [X.a]; rfl)))
        obtain rfl := X.a; subst hT
        refine (show Std.mset (Std.mset (encL encX m2) (.int (Std.asInt (Std.cell r (j : Int) 0))) [.int (Std.add (Std.asInt (Std.mget (encL encX m2) (.int (Std.asInt (Std.cell r (j : Int) 0))) 0)) 1)]) (.int (Std.asInt (Std.cell r (j : Int) 1))) [.int (Std.sub (Std.asInt (Std.mget (Std.mset (encL encX m2) (.int (Std.asInt (Std.cell r (j : Int) 0))) [.int (Std.add (Std.asInt (Std.mget (encL encX m2) (.int (Std.asInt (Std.cell r (j : Int) 0))) 0)) 1)]) (.int (Std.asInt (Std.cell r (j : Int) 1))) 0)) 1)] = encL encX m4 from ?_)
        rw [fin1, fin2, fin3]
    · have h6 : j = q := by
        have hrl' : Std.len r = Int.ofNat q := by rw [X.a] at hrl; exact hrl
        obtain rfl := X.a; simp only [hrl', Std_x0, Std_x1, Std_len, Std_lt, Std_le, Std_eq, Std_add, Std_sub, Std_mul, Std_not, Std_ite, Std_str, Std_bool, Std_int, Std_slen, Std_seq, Std_slt', Std_beq, Std_idx, Std_bnd, Std_same, Std_max', Std_min', Std_partI, Std_app, Std_len_app, Std_len_lit, Std_len_setc, List.length_take, List.length_drop, List.length_append, List.length_cons, List.length_nil, Int.toNat_natCast, Std_inr64, bNot, Int.ofNat_eq_natCast, Int.natCast_zero, decide_eq_true_eq, decide_eq_false_iff_not, Bool.not_eq_true, Bool.not_eq_false, Bool.not_eq_eq_eq_not, Bool.not_true, Bool.not_false, beq_iff_eq, beq_eq_false_iff_ne, ne_eq, Bool.true_eq_false, Bool.false_eq_true, cond_true, cond_false] at h3; omega
      subst h6
      rw [hq, List.take_length, ← hX5] at hm2
      cbv
      repeat' (first | apply And.intro | exact fun (_ : False → False) => by kernel_rfl | (intro h2; cbv) | apply Or.inl)
      · obtain rfl := X.a; simp only [Std_x0, Std_x1, Std_len, Std_lt, Std_le, Std_eq, Std_add, Std_sub, Std_mul, Std_not, Std_ite, Std_str, Std_bool, Std_int, Std_slen, Std_seq, Std_slt', Std_beq, Std_idx, Std_bnd, Std_same, Std_max', Std_min', Std_partI, Std_app, Std_len_app, Std_len_lit, Std_len_setc, List.length_take, List.length_drop, List.length_append, List.length_cons, List.length_nil, Int.toNat_natCast, Std_inr64, bNot, Int.ofNat_eq_natCast, Int.natCast_zero, decide_eq_true_eq, decide_eq_false_iff_not, Bool.not_eq_true, Bool.not_eq_false, Bool.not_eq_eq_eq_not, Bool.not_true, Bool.not_false, beq_iff_eq, beq_eq_false_iff_ne, ne_eq, Bool.true_eq_false, Bool.false_eq_true, cond_true, cond_false]; omega
      · refine ⟨(i+1, m2), ⟨by dsimp only; omega, hm2⟩, by dsimp only; omega, ?_⟩
        (cbv; repeat' apply And.intro); all_goals (try (first | trivial | rfl | (rw [X.a]; rfl)))
  · have h5 : i = l.length := by obtain rfl := X.a; simp only [hlen, Std_x0, Std_x1, Std_len, Std_lt, Std_le, Std_eq, Std_add, Std_sub, Std_mul, Std_not, Std_ite, Std_str, Std_bool, Std_int, Std_slen, Std_seq, Std_slt', Std_beq, Std_idx, Std_bnd, Std_same, Std_max', Std_min', Std_partI, Std_app, Std_len_app, Std_len_lit, Std_len_setc, List.length_take, List.length_drop, List.length_append, List.length_cons, List.length_nil, Int.toNat_natCast, Std_inr64, bNot, Int.ofNat_eq_natCast, Int.natCast_zero, decide_eq_true_eq, decide_eq_false_iff_not, Bool.not_eq_true, Bool.not_eq_false, Bool.not_eq_eq_eq_not, Bool.not_true, Bool.not_false, beq_iff_eq, beq_eq_false_iff_ne, ne_eq, Bool.true_eq_false, Bool.false_eq_true, cond_true, cond_false] at h1; omega
    rw [h5, List.take_length] at hm
    have hXok := allX_ok (l := l)
    have hXl : (allX l).length ≤ 100 * 1000001 := by
      have : ∀ k : List (List (Int × Int)), (allX k).length ≤ k.length * 1000001 := fun k => by
        induction k with
        | nil => simp [allX]
        | cons s k ih =>
          have := (can_canon s).length
          simp only [allX, List.map_cons, List.flatten_cons, List.length_append, List.length_cons] at ih ⊢; omega
      exact Nat.le_trans (this l) (Nat.mul_le_mul_right _ hl)
    obtain ⟨XX, hXX⟩ : ∃ XX, XX = allX l := ⟨_, rfl⟩
    rw [← hXX] at hm hXok hXl h
    have hml := hm.len
    obtain ⟨q, hq⟩ : ∃ q, q = m.length := ⟨_, rfl⟩
    have hTl : A.len (T m) = Int.ofNat q := by rw [X.a, hT, Std_len, hq]; rfl
    cbv
    refine ⟨?_, ?_, ?_⟩
    · obtain rfl := X.a; subst hT; simp only [Std_x0, Std_x1, Std_len, Std_lt, Std_le, Std_eq, Std_add, Std_sub, Std_mul, Std_not, Std_ite, Std_str, Std_bool, Std_int, Std_slen, Std_seq, Std_slt', Std_beq, Std_idx, Std_bnd, Std_same, Std_max', Std_min', Std_partI, Std_app, Std_len_app, Std_len_lit, Std_len_setc, List.length_take, List.length_drop, List.length_append, List.length_cons, List.length_nil, Int.toNat_natCast, Std_inr64, bNot, Int.ofNat_eq_natCast, Int.natCast_zero, decide_eq_true_eq, decide_eq_false_iff_not, Bool.not_eq_true, Bool.not_eq_false, Bool.not_eq_eq_eq_not, Bool.not_true, Bool.not_false, beq_iff_eq, beq_eq_false_iff_ne, ne_eq, Bool.true_eq_false, Bool.false_eq_true, cond_true, cond_false]; omega
    · obtain rfl := X.a; subst hT; simp only [Std_x0, Std_x1, Std_len, Std_lt, Std_le, Std_eq, Std_add, Std_sub, Std_mul, Std_not, Std_ite, Std_str, Std_bool, Std_int, Std_slen, Std_seq, Std_slt', Std_beq, Std_idx, Std_bnd, Std_same, Std_max', Std_min', Std_partI, Std_app, Std_len_app, Std_len_lit, Std_len_setc, List.length_take, List.length_drop, List.length_append, List.length_cons, List.length_nil, Int.toNat_natCast, Std_inr64, bNot, Int.ofNat_eq_natCast, Int.natCast_zero, decide_eq_true_eq, decide_eq_false_iff_not, Bool.not_eq_true, Bool.not_eq_false, Bool.not_eq_eq_eq_not, Bool.not_true, Bool.not_false, beq_iff_eq, beq_eq_false_iff_ne, ne_eq, Bool.true_eq_false, Bool.false_eq_true, cond_true, cond_false]; omega
    refine X.loop (fun (ks : List Int) => ⟨[(46, .it 2), (10, .row 3 1), (5, .mp 0), (0, .clos g [.pptr [.lst 23 e] 0])], [.map (.int .i64) 3 (T m), .row 3 (U (ks.map fun j => (gx m j).1)) true, .iter 0 (U ks)]⟩) (fun ks => ks.Nodup ∧ ∀ j ∈ ks, 0 ≤ j ∧ j < m.length) (fun ks => m.length - ks.length) [] ⟨List.nodup_nil, by simp⟩ ?_ ?_
    · (cbv; repeat' apply And.intro); all_goals (try (first | trivial | rfl | (rw [X.a]; rfl)))
      · rw [X.a, hU]; rfl
      · rw [hU]; rfl
    rintro ks ⟨hnd, hrg⟩
    have hkl := nodup_len hnd hrg
    cbv
    refine ⟨fun h7 => ?_, fun j h7 => ?_⟩
    · have hall : ∀ j : Nat, j < m.length → (j : Int) ∈ ks := by rw [X.a, hT, hU] at h7; exact Std_allSeen h7
      have hperm := seen_all (m := m) (fun j => (gx m j).1) hnd hrg hall
      rw [range_keys] at hperm
      have hbl : (ks.map fun j => (gx m j).1).length = m.length := by rw [hperm.length_eq]; simp
      obtain ⟨b, hb⟩ : ∃ b, b = ks.map fun j => (gx m j).1 := ⟨_, rfl⟩
      rw [← hb] at hperm hbl ⊢
      cbv
      refine X.call (F87 (l := b) (by rw [hU]) (by omega) fun S rS hpS hsS hrS => ?_)
      have hends := ends_of hm hXok (hpS.trans hperm) hsS
      have hSl : S.length = m.length := by rw [hpS.length_eq, hbl]
      obtain ⟨htwo, _⟩ := hends.two
      have hget := hm.get
      have hkeys := hm.keys
      have hrSl : A.len rS = Int.ofNat S.length := by rw [X.a, hrS]; exact encJ_len
      obtain ⟨n2, hn2⟩ : ∃ n2, n2 = S.length := ⟨_, rfl⟩
      rw [← hn2] at hrSl
      cbv
      repeat' (first | apply And.intro | exact fun (_ : False → False) => by kernel_rfl | (intro h2; cbv) | apply Or.inl)
      · obtain rfl := X.a
        have hrSl' : Std.len rS = Int.ofNat n2 := hrSl
        simp only [hrSl', Std_x0, Std_x1, Std_len, Std_lt, Std_le, Std_eq, Std_add, Std_sub, Std_mul, Std_not, Std_ite, Std_str, Std_bool, Std_int, Std_slen, Std_seq, Std_slt', Std_beq, Std_idx, Std_bnd, Std_same, Std_max', Std_min', Std_partI, Std_app, Std_len_app, Std_len_lit, Std_len_setc, List.length_take, List.length_drop, List.length_append, List.length_cons, List.length_nil, Int.toNat_natCast, Std_inr64, bNot, Int.ofNat_eq_natCast, Int.natCast_zero, decide_eq_true_eq, decide_eq_false_iff_not, Bool.not_eq_true, Bool.not_eq_false, Bool.not_eq_eq_eq_not, Bool.not_true, Bool.not_false, beq_iff_eq, beq_eq_false_iff_ne, ne_eq, Bool.true_eq_false, Bool.false_eq_true, cond_true, cond_false]; omega
      refine X.loop (fun (x : Nat × Int × List (Int × Int)) => ⟨[(60, .int .i64 x.1), (59, .int .i64 (A.sub (A.len rS) 1)), (13, .int .i64 x.2.1), (12, .row 65 3), (10, .row 3 1), (5, .mp 0), (0, .clos g [.pptr [.lst 23 e] 0])], [.map (.int .i64) 3 (T m), .row 3 rS true, .dead, .row 65 (T x.2.2) true]⟩) (fun x => x.1 + 1 ≤ n2 ∧ x.2.2.length ≤ x.1 ∧ Swp XX S kp x.1 x.2.1 x.2.2) (fun x => n2 - x.1) (0, 0, []) ⟨by omega, Nat.zero_le _, Swp.start hends⟩ ?_ ?_
      · (cbv; repeat' apply And.intro); all_goals (try (first | trivial | rfl | (rw [X.a]; rfl)))
        rw [hT]; rfl
      rintro ⟨i3, c3, o3⟩ ⟨hi3, ho3, hsw⟩
      dsimp only at hi3 ho3 hsw ⊢
      have hi4 : i3 < S.length := by omega
      have hcell : Std.asInt (Std.cell rS (Int.ofNat i3) 0) = S[i3] := by
        rw [hrS, encJ_cell]; simp [List.getD_eq_getElem?_getD, hi4]
      have hval : Std.asInt (Std.mget (encL encX m) (.int (Std.asInt (Std.cell rS (Int.ofNat i3) 0))) 0) = getM m S[i3] := by rw [hcell, Std_mget]
      have hcn := hsw.cnt hi4
      have hgv := hm.get S[i3]
      have hb1 := cLe_bound (X := XX) (a := S[i3])
      have hb2' := cEq_bound (X := XX) (a := S[i3])
      obtain ⟨v, hv⟩ : ∃ v, v = getM m S[i3] := ⟨_, rfl⟩
      rw [← hv] at hval hgv
      have hvb : -4294967296 ≤ c3 + v ∧ c3 + v ≤ 4294967296 := by omega
      cbv
      refine ⟨fun h9 => ?_, fun h9 => ?_⟩
      · have hi5 : i3 + 1 < S.length := by
          have hrSl' : Std.len rS = Int.ofNat n2 := by rw [X.a] at hrSl; exact hrSl
          obtain rfl := X.a; simp only [hrSl', Std_x0, Std_x1, Std_len, Std_lt, Std_le, Std_eq, Std_add, Std_sub, Std_mul, Std_not, Std_ite, Std_str, Std_bool, Std_int, Std_slen, Std_seq, Std_slt', Std_beq, Std_idx, Std_bnd, Std_same, Std_max', Std_min', Std_partI, Std_app, Std_len_app, Std_len_lit, Std_len_setc, List.length_take, List.length_drop, List.length_append, List.length_cons, List.length_nil, Int.toNat_natCast, Std_inr64, bNot, Int.ofNat_eq_natCast, Int.natCast_zero, decide_eq_true_eq, decide_eq_false_iff_not, Bool.not_eq_true, Bool.not_eq_false, Bool.not_eq_eq_eq_not, Bool.not_true, Bool.not_false, beq_iff_eq, beq_eq_false_iff_ne, ne_eq, Bool.true_eq_false, Bool.false_eq_true, cond_true, cond_false] at h9; omega
        have hcell2 : Std.asInt (Std.cell rS (Std.add (Int.ofNat i3) 1) 0) = S[i3+1] := by
          rw [hrS, encJ_cell]; simp [List.getD_eq_getElem?_getD, hi5, Std_add]
        have hstep := hsw.step hends hi5 (c' := c3 + v) (by rw [hgv])
        obtain ⟨s1, hs1⟩ : ∃ s, s = S[i3] := ⟨_, rfl⟩
        obtain ⟨s2, hs2⟩ : ∃ s, s = S[i3+1] := ⟨_, rfl⟩
        rw [← hs1, ← hs2] at hstep
        rw [← hs1] at hcell hgv hv
        rw [← hs2] at hcell2
        cbv
        repeat' (first | apply And.intro | exact fun (_ : False → False) => by kernel_rfl | (intro h2; cbv) | apply Or.inl)
        · obtain rfl := X.a
          have hrSl' : Std.len rS = Int.ofNat n2 := hrSl
          simp only [hrSl', Std_x0, Std_x1, Std_len, Std_lt, Std_le, Std_eq, Std_add, Std_sub, Std_mul, Std_not, Std_ite, Std_str, Std_bool, Std_int, Std_slen, Std_seq, Std_slt', Std_beq, Std_idx, Std_bnd, Std_same, Std_max', Std_min', Std_partI, Std_app, Std_len_app, Std_len_lit, Std_len_setc, List.length_take, List.length_drop, List.length_append, List.length_cons, List.length_nil, Int.toNat_natCast, Std_inr64, bNot, Int.ofNat_eq_natCast, Int.natCast_zero, decide_eq_true_eq, decide_eq_false_iff_not, Bool.not_eq_true, Bool.not_eq_false, Bool.not_eq_eq_eq_not, Bool.not_true, Bool.not_false, beq_iff_eq, beq_eq_false_iff_ne, ne_eq, Bool.true_eq_false, Bool.false_eq_true, cond_true, cond_false] at *; omega
        · obtain rfl := X.a; subst hT
          refine (show Std.inr .i64 (Std.add c3 (Std.asInt (Std.mget (encL encX m) (.int (Std.asInt (Std.cell rS (Int.ofNat i3) 0))) 0))) from ?_)
          rw [hval, Std_inr64, Std_add]; omega
        refine X.call (hkeep _ _ fun b hb => ?_)
        have hb3 : b = kp (c3 + v) := by
          rw [hb]; obtain rfl := X.a; subst hT
          show kp (Std.add c3 (Std.asInt (Std.mget (encL encX m) (.int (Std.asInt (Std.cell rS (Int.ofNat i3) 0))) 0))) = _
          rw [hval, Std_add]
        have hc3 : A.add c3 (A.asInt (A.mget (T m) (.int (A.asInt (A.cell rS (Int.ofNat i3) 0))) 0)) = c3 + v := by rw [X.a, hT, hval, Std_add]
        cbv
        repeat' (first | apply And.intro | exact fun (_ : False → False) => by kernel_rfl | (intro h2; cbv) | apply Or.inl)
        all_goals try (
          obtain rfl := X.a
          have hrSl' : Std.len rS = Int.ofNat n2 := hrSl
          subst hT
          simp only [hrSl', Std_x0, Std_x1, Std_len, Std_lt, Std_le, Std_eq, Std_add, Std_sub, Std_mul, Std_not, Std_ite, Std_str, Std_bool, Std_int, Std_slen, Std_seq, Std_slt', Std_beq, Std_idx, Std_bnd, Std_same, Std_max', Std_min', Std_partI, Std_app, Std_len_app, Std_len_lit, Std_len_setc, List.length_take, List.length_drop, List.length_append, List.length_cons, List.length_nil, Int.toNat_natCast, Std_inr64, bNot, Int.ofNat_eq_natCast, Int.natCast_zero, decide_eq_true_eq, decide_eq_false_iff_not, Bool.not_eq_true, Bool.not_eq_false, Bool.not_eq_eq_eq_not, Bool.not_true, Bool.not_false, beq_iff_eq, beq_eq_false_iff_ne, ne_eq, Bool.true_eq_false, Bool.false_eq_true, cond_true, cond_false] at * <;> omega)
        · have hbt : kp (c3 + v) = true := by rw [← hb3]; assumption
          rw [if_pos hbt] at hstep
          obtain ⟨c4, hc4⟩ : ∃ c4, c4 = c3 + v := ⟨_, rfl⟩
          obtain ⟨o4, ho4⟩ : ∃ o4, o4 = o3 ++ [(s1, s2)] := ⟨_, rfl⟩
          rw [← hc4, ← ho4] at hstep
          rw [← hc4] at hc3
          refine ⟨(i3+1, c4, o4), ⟨by dsimp only; omega, by dsimp only; rw [ho4]; simp; omega, hstep⟩, by dsimp only; omega, ?_⟩
          (cbv; repeat' apply And.intro); all_goals (try (first | trivial | rfl | (rw [X.a]; rfl)))
          obtain rfl := X.a; subst hT; subst ho4
          refine Std_app' rfl (lit1e (s1, s2) ?_)
          show [D.int (Std.asInt (Std.cell rS (Int.ofNat i3) 0)), D.int (Std.asInt (Std.cell rS (Std.add (Int.ofNat i3) 1) 0))] = _
          rw [hcell, hcell2]; rfl
        · have hbt : ¬ kp (c3 + v) = true := by rw [← hb3]; simp; assumption
          rw [if_neg hbt, List.append_nil] at hstep
          obtain ⟨c4, hc4⟩ : ∃ c4, c4 = c3 + v := ⟨_, rfl⟩
          rw [← hc4] at hstep
          rw [← hc4] at hc3
          refine ⟨(i3+1, c4, o3), ⟨by dsimp only; omega, by dsimp only; omega, hstep⟩, by dsimp only; omega, ?_⟩
          (cbv; repeat' apply And.intro); all_goals (try (first | trivial | rfl | (rw [X.a]; rfl)))
      · have hi5 : i3 + 1 = S.length := by
          have hrSl' : Std.len rS = Int.ofNat n2 := by rw [X.a] at hrSl; exact hrSl
          obtain rfl := X.a; simp only [hrSl', Std_x0, Std_x1, Std_len, Std_lt, Std_le, Std_eq, Std_add, Std_sub, Std_mul, Std_not, Std_ite, Std_str, Std_bool, Std_int, Std_slen, Std_seq, Std_slt', Std_beq, Std_idx, Std_bnd, Std_same, Std_max', Std_min', Std_partI, Std_app, Std_len_app, Std_len_lit, Std_len_setc, List.length_take, List.length_drop, List.length_append, List.length_cons, List.length_nil, Int.toNat_natCast, Std_inr64, bNot, Int.ofNat_eq_natCast, Int.natCast_zero, decide_eq_true_eq, decide_eq_false_iff_not, Bool.not_eq_true, Bool.not_eq_false, Bool.not_eq_eq_eq_not, Bool.not_true, Bool.not_false, beq_iff_eq, beq_eq_false_iff_ne, ne_eq, Bool.true_eq_false, Bool.false_eq_true, cond_true, cond_false] at h9; omega
        have hdone := hsw.done hends hi5
        cbv
        refine X.call (F83 (s := o3) (by rw [hT]) (by omega) fun r2 hr2 => ?_)
        cbv
        exact h _ _ (can_canon o3) hdone hr2
    · have h8 : 0 ≤ j ∧ j < m.length ∧ j ∉ ks := by rw [X.a, hT, hU] at h7; exact Std_unseen h7
      have hnew : (ks ++ [j]).Nodup := by
        rw [List.nodup_append]
        refine ⟨hnd, by simp, ?_⟩
        intro a ha b hb hab
        simp only [List.mem_singleton] at hb
        subst hb; subst hab; exact h8.2.2 ha
      have hnr : ∀ i ∈ ks ++ [j], 0 ≤ i ∧ i < m.length := by
        intro i hi
        rcases List.mem_append.1 hi with hi | hi
        · exact hrg i hi
        · simp only [List.mem_singleton] at hi; subst hi; exact ⟨h8.1, h8.2.1⟩
      have hkl2 := nodup_len hnew hnr
      have hmap : (ks ++ [j]).map (fun j => (gx m j).1) = ks.map (fun j => (gx m j).1) ++ [(gx m j).1] := by simp
      obtain ⟨k2, hk2⟩ : ∃ k2, k2 = ks ++ [j] := ⟨_, rfl⟩
      rw [← hk2] at hnew hnr hkl2 hmap
      have hkn : k2.length = ks.length + 1 := by rw [hk2]; simp
      obtain ⟨b, hb⟩ : ∃ b, b = ks.map fun j => (gx m j).1 := ⟨_, rfl⟩
      have hbl : b.length = ks.length := by rw [hb]; simp
      obtain ⟨b2, hb2⟩ : ∃ b2, b2 = k2.map fun j => (gx m j).1 := ⟨_, rfl⟩
      rw [← hb, ← hb2] at hmap
      rw [← hb]
      have hlast : Std.last (Std.see (encJ ks) j) = j := by rw [Std_see, Std_last]
      have hsee : Std.see (encJ ks) j = encJ k2 := by rw [Std_see, hk2]
      cbv
      repeat' (first | apply And.intro | exact fun (_ : False → False) => by kernel_rfl | (intro h2; cbv) | apply Or.inl)
      · obtain rfl := X.a; subst hU
        refine (show Std.idx 0 (Std.len (Std.see (encJ ks) j)) from ?_)
        rw [hsee, encJ_len, Std_idx]; omega
      · obtain rfl := X.a; subst hU; subst hT
        refine (show Std.idx (Std.last (Std.see (encJ ks) j)) (Std.len (encL encX m)) from ?_)
        rw [hlast, Std_len, Std_idx]; exact ⟨h8.1, h8.2.1⟩
      · obtain rfl := X.a; subst hU
        have : Std.len (encJ b) = (b.length : Int) := encJ_len
        simp only [this, Std_x0, Std_x1, Std_len, Std_lt, Std_le, Std_eq, Std_add, Std_sub, Std_mul, Std_not, Std_ite, Std_str, Std_bool, Std_int, Std_slen, Std_seq, Std_slt', Std_beq, Std_idx, Std_bnd, Std_same, Std_max', Std_min', Std_partI, Std_app, Std_len_app, Std_len_lit, Std_len_setc, List.length_take, List.length_drop, List.length_append, List.length_cons, List.length_nil, Int.toNat_natCast, Std_inr64, bNot, Int.ofNat_eq_natCast, Int.natCast_zero, decide_eq_true_eq, decide_eq_false_iff_not, Bool.not_eq_true, Bool.not_eq_false, Bool.not_eq_eq_eq_not, Bool.not_true, Bool.not_false, beq_iff_eq, beq_eq_false_iff_ne, ne_eq, Bool.true_eq_false, Bool.false_eq_true, cond_true, cond_false]; omega
      · refine ⟨k2, ⟨hnew, hnr⟩, by omega, ?_⟩
        rw [← hb2]
        (cbv; repeat' apply And.intro); all_goals (try (first | trivial | rfl | (rw [X.a]; rfl)))
        · obtain rfl := X.a; subst hU; subst hT
          rw [hmap]
          refine Std_app' rfl (lit1e (gx m j).1 ?_)
          show [D.int (Std.asInt (Std.cell (encL encX m) (Std.last (Std.see (encJ ks) j)) 0))] = _
          rw [hlast, Std_x0]
        · obtain rfl := X.a; subst hU; exact hsee

end Go.VC.T35
end

section
set_option linter.unusedSimpArgs false
set_option linter.unusedVariables false
namespace Go.VC.T35
open Go Go.VC Go.Proofs

theorem F72 {n : Int} {K : PV → List Ob → Prop} (h : ∀ b, b = decide (n = 0) → K (.bool b) []) : FC Tryz.prog tt 72 [] [.int .i64 n] K := by
  refine FC.enter (G := g72) tt_ok mixed ⟨Tryz.func72, by rfl, rfl⟩ rfl rfl rfl ?_
  intro A C L X
  cbv
  refine h _ ?_
  obtain rfl := X.a
  show Std.eq n 0 = _
  rw [Std_eq]; rfl
theorem F88 {n : Int} {K : PV → List Ob → Prop} (h : ∀ b, b = decide (0 < n) → K (.bool b) []) : FC Tryz.prog tt 88 [] [.int .i64 n] K := by
  refine FC.enter (G := g88) tt_ok mixed ⟨Tryz.func88, by rfl, rfl⟩ rfl rfl rfl ?_
  intro A C L X
  cbv
  refine h _ ?_
  obtain rfl := X.a
  rfl
theorem F90 {n : Int} {l : List (List (Int × Int))} {e : D} (he : e = encSS l) {K : PV → List Ob → Prop} (h : ∀ b, b = decide (n = l.length) → K (.bool b) []) : FC Tryz.prog tt 90 [] [.int .i64 n, .pptr [.lst 23 e] 0] K := by
  refine FC.enter (G := g90) tt_ok mixed ⟨Tryz.func90, by rfl, rfl⟩ rfl rfl rfl ?_
  intro A C L X
  cbv
  refine h _ ?_
  obtain rfl := X.a
  show Std.eq n (Std.len e) = _
  rw [Std_eq, he, encSS_len]; rfl

theorem F44 {s : List (Int × Int)} {d : D} {K : PV → List Ob → Prop} (hd : d = encL encX s) (hs : s.length ≤ 2000000) (h : ∀ r, r = encL encX (compl s) → K (.lst 65 r) []) : FC Tryz.prog tt 44 [] [.lst 65 d] K := by
  refine FC.enter (G := g44) tt_ok mixed ⟨Tryz.func44, by rfl, rfl⟩ rfl rfl rfl ?_
  intro A C L X
  cbv
  refine X.call (F71 (kp := fun n => decide (n = 0)) (l := [s]) (by rw [X.a, hd]; rfl) (by simp) (by simpa using hs) (fun n K' hK => F72 hK) fun c r hc hp hr => ?_)
  have he : compl s = c := compl_eq hc fun p => by
    have h0 := inC_all_pos (l := [s]) (p := p)
    simp only [List.mem_singleton, exists_eq_left] at h0
    rw [hp p, ← h0]
    simp only [decide_eq_true_eq]
    omega
  cbv
  exact h r (by rw [hr, he])

theorem F76 {l : List (List (Int × Int))} {d : D} {K : PV → List Ob → Prop} (hd : d = encSS l) (hl : l.length ≤ 100) (hs : ∀ s ∈ l, s.length ≤ 2000000) (h : ∀ r, r = encL encX (union l) → K (.lst 65 r) []) : FC Tryz.prog tt 76 [] [.lst 23 d] K := by
  refine FC.enter (G := g76) tt_ok mixed ⟨Tryz.func76, by rfl, rfl⟩ rfl rfl rfl ?_
  intro A C L X
  cbv
  refine X.call (F71 (kp := fun n => decide (0 < n)) (l := l) hd hl hs (fun n K' hK => F88 hK) fun c r hc hp hr => ?_)
  have he : union l = c := (can_union l).uniq hc fun p => by
    have h0 := inC_all_pos (l := l) (p := p)
    rw [hp p, pl_union, ← h0]
    simp only [decide_eq_true_eq]
    constructor
    · intro h
      obtain ⟨s, hs, hp⟩ := h0.1 h
      exact ⟨hp.1, hp.2.1, by omega⟩
    · rintro ⟨_, _, h⟩; omega
  cbv
  exact h r (by rw [hr, he])

theorem F82 {l : List (List (Int × Int))} {d : D} {K : PV → List Ob → Prop} (hd : d = encSS l) (hl : l.length ≤ 100) (hs : ∀ s ∈ l, s.length ≤ 2000000) (h : ∀ r, r = encL encX (inter l) → K (.lst 65 r) []) : FC Tryz.prog tt 82 [] [.lst 23 d] K := by
  refine FC.enter (G := g82) tt_ok mixed ⟨Tryz.func82, by rfl, rfl⟩ rfl rfl rfl ?_
  intro A C L X
  cbv
  refine X.call (F71c (e := d) (kp := fun n => decide (n = l.length)) (l := l) hd hl hs (fun n K' hK => F90 hd hK) fun c r hc hp hr => ?_)
  have he : inter l = c := (can_inter l).uniq hc fun p => by
    have h0 := inC_all_eq (l := l) (p := p)
    rw [hp p, pl_inter, ← h0]
    simp only [decide_eq_true_eq]
    constructor
    · rintro ⟨a, b, h⟩; exact ⟨a, b, by omega⟩
    · rintro ⟨a, b, h⟩; exact ⟨a, b, by omega⟩
  cbv
  exact h r (by rw [hr, he])

theorem F79 {a b : List (Int × Int)} {d e : D} {K : PV → List Ob → Prop} (hd : d = encL encX a) (he : e = encL encX b) (ha : a.length ≤ 2000000) (hb : b.length ≤ 2000000) (h : ∀ r, r = encL encX (minus a b) → K (.lst 65 r) []) : FC Tryz.prog tt 79 [] [.lst 65 d, .lst 65 e] K := by
  refine FC.enter (G := g79) tt_ok mixed ⟨Tryz.func79, by rfl, rfl⟩ rfl rfl rfl ?_
  intro A C L X
  cbv
  refine X.call (F44 he hb fun r hr => ?_)
  cbv
  refine X.call (F82 (l := [a, compl b]) (by rw [X.a, hd, hr]; rfl) (by simp) ?_ fun r hr => ?_)
  · intro s hs
    simp only [List.mem_cons, List.not_mem_nil, or_false] at hs
    rcases hs with rfl | rfl
    · exact ha
    · have := (can_compl b).length; omega
  cbv
  exact h r hr

theorem F54 {a b : List (Int × Int)} {d e : D} {K : PV → List Ob → Prop} (hd : d = encL encX a) (he : e = encL encX b) (ha : a.length ≤ 2000000) (hb : b.length ≤ 2000000) (h : ∀ r, r = subset a b → K (.bool r) []) : FC Tryz.prog tt 54 [] [.lst 65 d, .lst 65 e] K := by
  refine FC.enter (G := g54) tt_ok mixed ⟨Tryz.func54, by rfl, rfl⟩ rfl rfl rfl ?_
  intro A C L X
  cbv
  refine X.call (F79 hd he ha hb fun r hr => ?_)
  cbv
  refine h _ ?_
  rw [hr, X.a]
  show Std.eq (Std.len _) 0 = _
  rw [Std_len, Std_eq, subset]
  cases minus a b <;> rfl
end Go.VC.T35
end

section
/- Terms merged by path: the map's way and the sorted list's way come to one. -/
namespace Go.VC
theorem slt_eq (a b : List UInt8) : slt a b = decide (a < b) := Go.Proofs.bytesLess_eq a b
theorem slt_irrefl (a : List UInt8) : slt a a = false := by rw [slt_eq]; simp
theorem slt_trans {a b c : List UInt8} (h : slt a b = true) (h' : slt b c = true) : slt a c = true := by
  rw [slt_eq] at *; simp at *; exact List.lt_trans h h'
theorem slt_tri {a b : List UInt8} (h : slt a b = false) (h' : slt b a = false) : a = b := by
  rw [slt_eq] at *; simp at *; exact List.le_antisymm h' h
theorem slt_asymm {a b : List UInt8} (h : slt a b = true) : slt b a = false := by
  rw [slt_eq] at *; simp at *; exact List.le_of_lt h
/-- sorted by path, no path twice -/
def SrtT (l : List Term) : Prop := l.Pairwise fun a b => slt a.path b.path = true
theorem addT_mem {t u : Term} {m : List Term} (h : u ∈ addT t m) : u = t ∨ u ∈ m ∨ ∃ v ∈ m, v.path = t.path ∧ u = both v t := by
  induction m with
  | nil => simp [addT] at h; exact .inl h
  | cons v m ih =>
    simp only [addT] at h
    split at h
    · rcases List.mem_cons.1 h with rfl | h
      · exact .inr (.inl (by simp))
      · rcases ih h with h | h | ⟨w, h1, h2⟩
        · exact .inl h
        · exact .inr (.inl (by simp [h]))
        · exact .inr (.inr ⟨w, by simp [h1], h2⟩)
    · split at h
      · rename_i hp
        rcases List.mem_cons.1 h with rfl | h
        · exact .inr (.inr ⟨v, by simp, hp, rfl⟩)
        · exact .inr (.inl (by simp [h]))
      · rcases List.mem_cons.1 h with rfl | h
        · exact .inl rfl
        · exact .inr (.inl h)
theorem addT_path {t u : Term} {m : List Term} (h : u ∈ addT t m) : u.path = t.path ∨ ∃ v ∈ m, v.path = u.path := by
  rcases addT_mem h with rfl | h | ⟨v, h1, h2, rfl⟩
  · exact .inl rfl
  · exact .inr ⟨u, h, rfl⟩
  · exact .inl h2
theorem SrtT.add {t : Term} {m : List Term} (h : SrtT m) : SrtT (addT t m) := by
  induction m with
  | nil => simp [addT, SrtT]
  | cons v m ih =>
    obtain ⟨h1, h2⟩ := List.pairwise_cons.1 h
    simp only [addT]
    split
    · rename_i hv
      refine List.pairwise_cons.2 ⟨fun u hu => ?_, ih h2⟩
      rcases addT_path hu with hp | ⟨w, hw, hp⟩
      · rw [hp]; exact hv
      · rw [← hp]; exact h1 w hw
    · rename_i hv
      have hv : slt v.path t.path = false := by simpa using hv
      split
      · exact List.pairwise_cons.2 ⟨fun u hu => h1 u hu, h2⟩
      · rename_i hp
        have htv : slt t.path v.path = true := by
          cases hx : slt t.path v.path with
          | true => rfl
          | false => exact (hp (slt_tri hv hx)).elim
        refine List.pairwise_cons.2 ⟨fun u hu => ?_, h⟩
        rcases List.mem_cons.1 hu with rfl | hu
        · exact htv
        · exact slt_trans htv (h1 u hu)
theorem SrtT.merged {m l : List Term} (h : SrtT m) : SrtT (mergedT m l) := by
  induction l generalizing m with
  | nil => exact h
  | cons t l ih => exact ih h.add
theorem SrtT.nodup {m : List Term} (h : SrtT m) : (m.map (·.path)).Nodup := by
  refine List.Pairwise.map _ ?_ h
  intro a b hab e
  rw [e, slt_irrefl] at hab; cases hab

abbrev KT := List UInt8 × Term
def encP (x : KT) : List D := .str x.1 :: encT x.2
def getK (m : List KT) (k : List UInt8) : Option Term := (m.find? fun x => x.1 == k).map (·.2)
def setK (k : List UInt8) (t : Term) : List KT → List KT
  | [] => [(k, t)]
  | x :: m => if x.1 = k then (k, t) :: m else x :: setK k t m
def stepP (m : List KT) (t : Term) : List KT := setK t.path (match getK m t.path with | some u => both u t | none => both t t) m
def mergeP : List KT → List Term → List KT
  | m, [] => m
  | m, t :: l => mergeP (stepP m t) l
theorem mergeP_snoc {m : List KT} {l : List Term} {t : Term} : mergeP m (l ++ [t]) = stepP (mergeP m l) t := by
  induction l generalizing m with
  | nil => rfl
  | cons u l ih => exact ih
theorem length_setK {k : List UInt8} {t : Term} {m : List KT} : (setK k t m).length ≤ m.length + 1 := by
  induction m with
  | nil => simp [setK]
  | cons x m ih => simp only [setK]; split <;> simp <;> omega
theorem length_mergeP {m : List KT} {l : List Term} : (mergeP m l).length ≤ m.length + l.length := by
  induction l generalizing m with
  | nil => exact Nat.le_refl _
  | cons t l ih =>
    have := ih (m := stepP m t)
    have := length_setK (k := t.path) (t := match getK m t.path with | some u => both u t | none => both t t) (m := m)
    simp only [mergeP, List.length_cons]; unfold stepP at *; omega
theorem inter_norm (a b : List (Int × Int)) : inter [a, b] = inter [a, canon b] := by
  refine (can_inter _).uniq (can_inter _) fun p => ?_
  rw [pl_inter, pl_inter]; simp [pl_canon]
theorem inter_self (a : List (Int × Int)) : inter [a, a] = canon a := by
  refine (can_inter _).uniq (can_canon _) fun p => ?_
  rw [pl_inter, pl_canon]; simp
  constructor
  · exact fun h => h.2.2
  · exact fun h => ⟨h.1, h.2.1, h⟩
theorem both_norm (u t : Term) : both u t = both u (normT t) := by simp only [both, normT]; rw [inter_norm]
theorem both_self (t : Term) : both t t = normT t := by simp only [both, normT, inter_self, Bool.and_self]
/-- the map holds what the sorted list holds -/
structure MP (m : List KT) (M : List Term) : Prop where
  key : ∀ x ∈ m, x.1 = x.2.path
  perm : (m.map (·.2)).Perm M
theorem getK_some {m : List KT} {k : List UInt8} {u : Term} (h : getK m k = some u) : (k, u) ∈ m := by
  simp only [getK, Option.map_eq_some_iff] at h
  obtain ⟨x, h1, rfl⟩ := h
  have := List.find?_some h1
  have hk : x.1 = k := by simpa using this
  subst hk
  exact List.mem_of_find?_eq_some h1
theorem getK_none {m : List KT} {k : List UInt8} (h : getK m k = none) : ∀ x ∈ m, ¬ x.1 = k := by
  simp only [getK, Option.map_eq_none_iff, List.find?_eq_none] at h
  intro x hx; simpa using h x hx
theorem setK_new {m : List KT} {k : List UInt8} {t : Term} (h : ∀ x ∈ m, ¬ x.1 = k) : setK k t m = m ++ [(k, t)] := by
  induction m with
  | nil => rfl
  | cons x m ih =>
    simp only [setK]
    rw [if_neg (h x (by simp)), ih fun y hy => h y (by simp [hy])]; rfl
theorem setK_old {m : List KT} {k : List UInt8} {t u : Term} (h : getK m k = some u) : ∃ a b, m = a ++ (k, u) :: b ∧ setK k t m = a ++ (k, t) :: b := by
  induction m with
  | nil => simp [getK] at h
  | cons x m ih =>
    simp only [setK]
    by_cases hx : x.1 = k
    · rw [if_pos hx]
      have : getK (x :: m) k = some x.2 := by simp [getK, hx]
      rw [this] at h; cases h
      exact ⟨[], m, by simp [← hx], rfl⟩
    · rw [if_neg hx]
      have hb : (x.1 == k) = false := by simpa using hx
      have : getK m k = some u := by simpa [getK, hb] using h
      obtain ⟨a, b, h1, h2⟩ := ih this
      exact ⟨x :: a, b, by rw [h1]; rfl, by rw [h2]; rfl⟩
theorem addT_old {t : Term} : ∀ {M : List Term}, SrtT M → ∀ {u : Term}, u ∈ M → u.path = t.path → ∃ a b, M = a ++ u :: b ∧ addT t M = a ++ both u t :: b
  | [], _, u, hu, _ => by simp at hu
  | v :: M, hs, u, hu, hp => by
    obtain ⟨h1, h2⟩ := List.pairwise_cons.1 hs
    rcases List.mem_cons.1 hu with rfl | hu
    · refine ⟨[], M, rfl, ?_⟩
      simp only [addT]
      rw [if_neg (by rw [hp, slt_irrefl]; simp), if_pos hp]; rfl
    · obtain ⟨a, b, h3, h4⟩ := addT_old h2 hu hp
      have hv : slt v.path t.path = true := by rw [← hp]; exact h1 u hu
      refine ⟨v :: a, b, by rw [h3]; rfl, ?_⟩
      simp only [addT]
      rw [if_pos hv, h4]; rfl
theorem addT_new {t : Term} {M : List Term} (h : ∀ u ∈ M, ¬ u.path = t.path) : (addT t M).Perm (t :: M) := by
  induction M with
  | nil => exact List.Perm.refl _
  | cons v M ih =>
    simp only [addT]
    split
    · exact ((ih fun u hu => h u (by simp [hu])).cons v).trans (List.Perm.swap _ _ _)
    · rw [if_neg (h v (by simp))]
theorem MP.step {m : List KT} {M : List Term} (h : MP m M) (hs : SrtT M) (t : Term) : MP (stepP m t) (addT (normT t) M) := by
  unfold stepP
  cases hg : getK m t.path with
  | none =>
    have hn := getK_none hg
    simp only
    rw [setK_new hn, both_self]
    refine ⟨?_, ?_⟩
    · intro x hx
      rcases List.mem_append.1 hx with hx | hx
      · exact h.key x hx
      · simp only [List.mem_singleton] at hx; subst hx; rfl
    · have hn2 : ∀ u ∈ M, ¬ u.path = (normT t).path := by
        intro u hu hp
        obtain ⟨x, hx, rfl⟩ := List.mem_map.1 (h.perm.mem_iff.2 hu)
        exact hn x hx ((h.key x hx).trans hp)
      refine List.Perm.trans ?_ (addT_new hn2).symm
      rw [List.map_append]
      exact (List.perm_append_comm).trans (h.perm.cons _)
  | some u =>
    have hmem := getK_some hg
    have hup : u.path = t.path := (h.key _ hmem).symm
    simp only
    obtain ⟨a, b, h1, h2⟩ := setK_old (t := both u t) hg
    have huM : u ∈ M := h.perm.mem_iff.1 (List.mem_map.2 ⟨_, hmem, rfl⟩)
    obtain ⟨a', b', h3, h4⟩ := addT_old (t := normT t) hs huM hup
    rw [h2, h4, ← both_norm]
    refine ⟨?_, ?_⟩
    · intro x hx
      simp only [List.mem_append, List.mem_cons] at hx
      have hk := h.key
      rw [h1] at hk
      rcases hx with hx | rfl | hx
      · exact hk x (by simp [hx])
      · exact hup.symm
      · exact hk x (by simp [hx])
    · have hp := h.perm
      rw [h1, h3] at hp
      simp only [List.map_append, List.map_cons] at hp ⊢
      have e1 := (List.perm_middle (a := u) (l₁ := a.map (·.2)) (l₂ := b.map (·.2))).symm.trans (hp.trans List.perm_middle)
      have e2 := e1.cons_inv
      exact List.perm_middle.trans ((e2.cons _).trans List.perm_middle.symm)
theorem MP.merged {l : List Term} : ∀ {m : List KT} {M : List Term}, MP m M → SrtT M → MP (mergeP m l) (mergedT M l) := by
  induction l with
  | nil => intro m M h _; exact h
  | cons t l ih => intro m M h hs; exact ih (h.step hs t) hs.add
theorem mp_merge (l : List Term) : MP (mergeP [] l) (mergedT [] l) := MP.merged ⟨fun x hx => by simp at hx, List.Perm.refl _⟩ List.Pairwise.nil
theorem sortedT_uniq {S M : List Term} (hp : S.Perm M) (hs : ∀ i j (hi : i < S.length) (hj : j < S.length), i < j → slt S[j].path S[i].path = false) (hM : SrtT M) : S = M := by
  have hnd : (S.map (·.path)).Nodup := (hp.map _).symm.nodup hM.nodup
  have hSs : SrtT S := by
    rw [SrtT, List.pairwise_iff_getElem]
    intro i j hi hj hij
    cases hx : slt S[i].path S[j].path with
    | true => rfl
    | false =>
      have e := slt_tri hx (hs i j hi hj hij)
      have : i = j := by
        refine (List.getElem_inj (i := i) (j := j) (h₀ := by simpa using hi) (h₁ := by simpa using hj) hnd).1 ?_
        simpa using e
      omega
  clear hs hnd
  induction S generalizing M with
  | nil => exact (List.Perm.nil_eq hp)
  | cons a S ih =>
    cases M with
    | nil => exact (List.Perm.eq_nil hp)
    | cons b M =>
      obtain ⟨a1, a2⟩ := List.pairwise_cons.1 hSs
      obtain ⟨b1, b2⟩ := List.pairwise_cons.1 hM
      have hab : a = b := by
        have h1 := hp.mem_iff.1 (show a ∈ a :: S by simp)
        have h2 := hp.mem_iff.2 (show b ∈ b :: M by simp)
        rcases List.mem_cons.1 h1 with h1 | h1
        · exact h1
        · rcases List.mem_cons.1 h2 with h2 | h2
          · exact h2.symm
          · have := slt_asymm (b1 a h1)
            rw [a1 b h2] at this; cases this
      subst hab
      rw [ih hp.cons_inv b2 a2]
theorem compl_nil {c : List (Int × Int)} (h : Can c) : (compl c).isEmpty = (c == [(0, 1000000)]) := by
  rw [Bool.eq_iff_iff, List.isEmpty_iff, beq_iff_eq]
  constructor
  · intro he
    have h1 := (can_nil_iff (can_compl c)).1 he
    refine h.uniq (show Can [(0, 1000000)] from ⟨by decide, by decide, by decide, trivial⟩) fun p => ?_
    constructor
    · rintro ⟨a, b, _⟩; exact ⟨a, b, (0, 1000000), by simp, a, b⟩
    · rintro ⟨a, b, _⟩
      by_cases hp : pl c p
      · exact hp
      · exact (h1 p (pl_compl.2 ⟨a, b, hp⟩)).elim
  · intro he; subst he
    rw [can_nil_iff (can_compl _)]
    intro p hp
    obtain ⟨a, b, hn⟩ := pl_compl.1 hp
    exact hn ⟨a, b, (0, 1000000), by simp, a, b⟩
end Go.VC
end

section
/- The map of terms as data. -/
namespace Go.VC
theorem Std_kmhas {m : List KT} {k : List UInt8} : Std.mhas (encL encP m) (.str k) = (getK m k).isSome := by
  simp only [Std, std, encL, rowsD, List.any_map, getK, Option.isSome_map]
  rw [List.isSome_find?]
  congr 1
  funext x
  simp only [Function.comp, hasKey, encP, keyEq]
  rw [Bool.eq_iff_iff, beq_iff_eq, beq_iff_eq]; exact eq_comm
theorem Std_kmget {m : List KT} {k : List UInt8} {u : Term} (h : getK m k = some u) (j : Nat) : Std.mget (encL encP m) (.str k) j = (encT u).getD j .nil := by
  simp only [Std, std, encL, rowsD]
  induction m with
  | nil => simp [getK] at h
  | cons x m ih =>
    have hk : hasKey (.str k) (encP x) = (k == x.1) := rfl
    simp only [List.map_cons, List.find?_cons]
    rw [hk]
    by_cases hx : x.1 = k
    · have h1 : (k == x.1) = true := by simp [hx]
      have h2 : getK (x :: m) k = some x.2 := by simp [getK, hx]
      rw [h2] at h; cases h
      rw [h1]; rfl
    · have h1 : (k == x.1) = false := by simp; exact fun e => hx e.symm
      have hb : (x.1 == k) = false := by simpa using hx
      have h2 : getK m k = some u := by simpa [getK, hb] using h
      rw [h1]; exact ih h2
theorem Std_kmset {m : List KT} {k : List UInt8} {t : Term} {vs : List D} (h : vs = encT t) : Std.mset (encL encP m) (.str k) vs = encL encP (setK k t m) := by
  subst h
  simp only [Std, std, encL, rowsD]
  congr 1
  induction m with
  | nil => rfl
  | cons x m ih =>
    have hk : hasKey (.str k) (encP x) = (k == x.1) := rfl
    simp only [List.map_cons, setKey, setK]
    rw [hk]
    by_cases h : k = x.1
    · rw [if_pos (by simp [h]), if_pos h.symm]; rfl
    · rw [if_neg (by simp [h]), if_neg (fun e => h e.symm), List.map_cons, ← ih]
end Go.VC
end

section
set_option linter.unusedSimpArgs false
set_option linter.unusedVariables false
namespace Go.VC.T35
open Go Go.VC Go.Proofs

set_option maxRecDepth 100000 in
theorem F62 {p q : List UInt8} {a b : Bool} {s t : List (Int × Int)} {d e : D} {K : PV → List Ob → Prop} (hd : d = encL encX s) (he : e = encL encX t) (hs : s.length ≤ 2000000) (ht : t.length ≤ 2000000)
    (h : ∀ r c, r = encL encX (inter [s, t]) → c = (a && b) → K (.agg [.str p, .bool c, .lst 65 r]) []) : FC Tryz.prog tt 62 [] [.agg [.str p, .bool a, .lst 65 d], .agg [.str q, .bool b, .lst 65 e]] K := by
  refine FC.enter (G := g62) tt_ok mixed ⟨Tryz.func62, by rfl, rfl⟩ rfl rfl rfl ?_
  intro A C L X
  cbv
  repeat' (first | apply And.intro | exact fun (_ : False → False) => by kernel_rfl | (intro h2; cbv) | apply Or.inl)
  all_goals
    refine X.call (F82 (l := [s, t]) (by rw [X.a, hd, he]; rfl) (by simp) ?_ fun r hr => ?_)
    · intro u hu
      simp only [List.mem_cons, List.not_mem_nil, or_false] at hu
      rcases hu with rfl | rfl <;> assumption
    cbv
    refine h _ _ hr ?_
    try simp only [bNot] at h2
    rw [h2]; rfl

set_option maxRecDepth 100000 in
theorem F63 {p : List UInt8} {b : Bool} {s : List (Int × Int)} {d : D} {K : PV → List Ob → Prop} (hd : d = encL encX s) (hs : s.length ≤ 2000000) (h : ∀ r, r = tNever ⟨p, b, canon s⟩ → K (.bool r) []) : FC Tryz.prog tt 63 [] [.agg [.str p, .bool b, .lst 65 d]] K := by
  refine FC.enter (G := g63) tt_ok mixed ⟨Tryz.func63, by rfl, rfl⟩ rfl rfl rfl ?_
  intro A C L X
  cbv
  repeat' (first | apply And.intro | exact fun (_ : False → False) => by kernel_rfl | (intro h2; cbv) | apply Or.inl)
  · refine X.call (F83 hd (by omega) fun r hr => ?_)
    cbv
    refine h _ ?_
    have hb : b = false := by obtain rfl := X.a; simp only [Std_t0, Std_t1, Std_x0, Std_x1, Std_len, Std_lt, Std_le, Std_eq, Std_add, Std_sub, Std_mul, Std_not, Std_ite, Std_str, Std_bool, Std_int, Std_slen, Std_seq, Std_slt', Std_beq, Std_idx, Std_bnd, Std_same, Std_max', Std_min', Std_partI, Std_app, Std_len_app, Std_len_lit, Std_len_setc, List.length_take, List.length_drop, List.length_append, List.length_cons, List.length_nil, Int.toNat_natCast, Std_inr64, bNot, Int.ofNat_eq_natCast, Int.natCast_zero, decide_eq_true_eq, decide_eq_false_iff_not, Bool.not_eq_true, Bool.not_eq_false, Bool.not_eq_eq_eq_not, Bool.not_true, Bool.not_false, beq_iff_eq, beq_eq_false_iff_ne, ne_eq, Bool.true_eq_false, Bool.false_eq_true, cond_true, cond_false] at *; assumption
    rw [hr, X.a, hb, tNever]
    show Std.eq (Std.len _) 0 = _
    rw [Std_len, Std_eq]
    cases canon s <;> rfl
  · refine h _ ?_
    obtain rfl := X.a; simp only [Std_t0, Std_t1, Std_x0, Std_x1, Std_len, Std_lt, Std_le, Std_eq, Std_add, Std_sub, Std_mul, Std_not, Std_ite, Std_str, Std_bool, Std_int, Std_slen, Std_seq, Std_slt', Std_beq, Std_idx, Std_bnd, Std_same, Std_max', Std_min', Std_partI, Std_app, Std_len_app, Std_len_lit, Std_len_setc, List.length_take, List.length_drop, List.length_append, List.length_cons, List.length_nil, Int.toNat_natCast, Std_inr64, bNot, Int.ofNat_eq_natCast, Int.natCast_zero, decide_eq_true_eq, decide_eq_false_iff_not, Bool.not_eq_true, Bool.not_eq_false, Bool.not_eq_eq_eq_not, Bool.not_true, Bool.not_false, beq_iff_eq, beq_eq_false_iff_ne, ne_eq, Bool.true_eq_false, Bool.false_eq_true, cond_true, cond_false] at *
    simp [tNever, h2]

set_option maxRecDepth 100000 in
theorem F64 {p : List UInt8} {b : Bool} {s : List (Int × Int)} {d : D} {K : PV → List Ob → Prop} (hd : d = encL encX s) (hs : s.length ≤ 2000000) (h : ∀ r, r = (b && (compl s).isEmpty) → K (.bool r) []) : FC Tryz.prog tt 64 [] [.agg [.str p, .bool b, .lst 65 d]] K := by
  refine FC.enter (G := g64) tt_ok mixed ⟨Tryz.func64, by rfl, rfl⟩ rfl rfl rfl ?_
  intro A C L X
  cbv
  repeat' (first | apply And.intro | exact fun (_ : False → False) => by kernel_rfl | (intro h2; cbv) | apply Or.inl)
  · refine X.call (F44 hd hs fun r hr => ?_)
    cbv
    refine h _ ?_
    rw [hr, X.a, h2]
    show Std.eq (Std.len _) 0 = _
    rw [Std_len, Std_eq]
    cases compl s <;> rfl
  · refine h _ ?_
    simp only [bNot] at h2
    simp [h2]

set_option maxRecDepth 100000 in
set_option maxHeartbeats 2000000 in
theorem F61 {l : List Term} {d : D} {K : PV → List Ob → Prop} (hd : d = encL encT l) (hl : l.length ≤ 1000) (hs : ∀ t ∈ l, t.set.length ≤ 2000000)
    (h : ∀ r, r = encL encP (mergeP [] l) → K (.mp 0) [.map .str 51 r]) : FC Tryz.prog tt 61 [] [.lst 51 d, .clos 62 []] K := by
  refine FC.enterOwn (G := g61) tt_ok mixed ⟨Tryz.func61, by rfl, rfl⟩ rfl rfl rfl ?_
  intro A C L X
  obtain ⟨T, hT⟩ : ∃ T, T =  encL encP := ⟨_, rfl⟩
  obtain ⟨n, hn⟩ : ∃ n, n = l.length := ⟨_, rfl⟩
  have hlen : Std.len d = Int.ofNat n := by rw [hd, Std_len, hn]; rfl
  cbv
  refine X.loop (fun (x : Nat × List KT) => ⟨[(13, .int .i64 x.1), (12, .int .i64 (A.len d)), (11, .lst 51 d), (5, .mp 0), (1, .clos 62 [])], [.map .str 51 (T x.2)]⟩) (fun x => x.1 ≤ n ∧ x.2 = mergeP [] (l.take x.1)) (fun x => n - x.1) (0, []) ⟨Nat.zero_le _, rfl⟩ ?_ ?_
  · (cbv; repeat' apply And.intro); all_goals (try (first | trivial | rfl | (rw [X.a]; rfl)))
    rw [hT]; rfl
  rintro ⟨i, m⟩ ⟨hi, hm⟩
  dsimp only at hi hm ⊢
  cbv
  refine ⟨fun h1 => ?_, fun h1 => ?_⟩
  · have h5 : i < l.length := by obtain rfl := X.a; simp only [hlen, Std_t0, Std_t1, Std_x0, Std_x1, Std_len, Std_lt, Std_le, Std_eq, Std_add, Std_sub, Std_mul, Std_not, Std_ite, Std_str, Std_bool, Std_int, Std_slen, Std_seq, Std_slt', Std_beq, Std_idx, Std_bnd, Std_same, Std_max', Std_min', Std_partI, Std_app, Std_len_app, Std_len_lit, Std_len_setc, List.length_take, List.length_drop, List.length_append, List.length_cons, List.length_nil, Int.toNat_natCast, Std_inr64, bNot, Int.ofNat_eq_natCast, Int.natCast_zero, decide_eq_true_eq, decide_eq_false_iff_not, Bool.not_eq_true, Bool.not_eq_false, Bool.not_eq_eq_eq_not, Bool.not_true, Bool.not_false, beq_iff_eq, beq_eq_false_iff_ne, ne_eq, Bool.true_eq_false, Bool.false_eq_true, cond_true, cond_false] at h1; omega
    have e5 := encT_cell2 (l := l) (a := Int.ofNat i) i rfl h5
    have hsi : l[i].set.length ≤ 2000000 := hs _ (List.getElem_mem h5)
    have g5 : gt l (Int.ofNat i) = l[i] := gt_get i rfl h5
    have hm2 : mergeP [] (l.take (i+1)) = stepP m l[i] := by rw [take_succ' h5, mergeP_snoc, ← hm]
    have hmc : ∀ k u, getK m k = some u → u.set.length ≤ 1000001 := by
      intro k u hu
      have h1 := (mp_merge (l.take i)).perm.mem_iff.1 (List.mem_map.2 ⟨_, getK_some (by rw [← hm]; exact hu), rfl⟩)
      have h2 : CanT (mergedT [] (l.take i)) := CanT.mergedT (fun t ht => by simp at ht)
      exact (h2 _ h1).length
    obtain ⟨t, ht⟩ : ∃ t, t = l[i] := ⟨_, rfl⟩
    rw [← ht] at e5 hsi g5 hm2
    have hp : A.asStr (A.cell d (Int.ofNat i) 0) = t.path := by rw [X.a, hd]; rw [Std_t0, g5]
    have hb : A.asBool (A.cell d (Int.ofNat i) 1) = t.absent := by rw [X.a, hd]; rw [Std_t1, g5]
    have hst : A.cell d (Int.ofNat i) 2 = encL encX t.set := by rw [X.a, hd]; exact e5
    cbv
    repeat' (first | apply And.intro | exact fun (_ : False → False) => by kernel_rfl | (intro h2; cbv) | apply Or.inl)
    · obtain rfl := X.a; simp only [hlen, Std_t0, Std_t1, Std_x0, Std_x1, Std_len, Std_lt, Std_le, Std_eq, Std_add, Std_sub, Std_mul, Std_not, Std_ite, Std_str, Std_bool, Std_int, Std_slen, Std_seq, Std_slt', Std_beq, Std_idx, Std_bnd, Std_same, Std_max', Std_min', Std_partI, Std_app, Std_len_app, Std_len_lit, Std_len_setc, List.length_take, List.length_drop, List.length_append, List.length_cons, List.length_nil, Int.toNat_natCast, Std_inr64, bNot, Int.ofNat_eq_natCast, Int.natCast_zero, decide_eq_true_eq, decide_eq_false_iff_not, Bool.not_eq_true, Bool.not_eq_false, Bool.not_eq_eq_eq_not, Bool.not_true, Bool.not_false, beq_iff_eq, beq_eq_false_iff_ne, ne_eq, Bool.true_eq_false, Bool.false_eq_true, cond_true, cond_false] at *; omega
    · have hsome : (getK m t.path).isSome = true := by
        rw [← Std_kmhas, ← hp]; rw [X.a, hT] at h2; rw [X.a]; exact h2
      obtain ⟨u, hu⟩ := Option.isSome_iff_exists.1 hsome
      have hus := hmc _ _ hu
      have k0 := Std_kmget hu 0
      have k1 := Std_kmget hu 1
      have k2 := Std_kmget hu 2
      have hm3 : stepP m t = setK t.path (both u t) m := by simp only [stepP, hu]
      refine X.call (F62 (s := u.set) (t := t.set) ?_ hst (by omega) (by omega) fun r c hr hc => ?_)
      · refine Eq.trans ?_ k2
        rw [← hp]; obtain rfl := X.a; subst hT; rfl
      have hc2 : c = (both u t).absent := by
        rw [hc]
        have e1 : A.asBool (A.mget (T m) (.str (A.asStr (A.cell d (Int.ofNat i) 0))) 1) = u.absent := by rw [hp, X.a, hT, k1]; rfl
        exact (congr (congrArg and e1) hb)
      have hfin : Std.mset (encL encP m) (.str t.path) [.str u.path, .bool c, r] = encL encP (setK t.path (both u t) m) := Std_kmset (by rw [hr, hc2]; rfl)
      have e0 : A.asStr (A.mget (T m) (.str (A.asStr (A.cell d (Int.ofNat i) 0))) 0) = u.path := by rw [hp, X.a, hT, k0]; rfl
      have hfin2 : A.mset (T m) (.str (A.asStr (A.cell d (Int.ofNat i) 0))) [.str (A.asStr (A.mget (T m) (.str (A.asStr (A.cell d (Int.ofNat i) 0))) 0)), .bool c, r] = T (stepP m t) := by
        rw [e0, hp, X.a, hT, hfin, hm3]
      obtain ⟨m4, hm4⟩ : ∃ m4, m4 = stepP m t := ⟨_, rfl⟩
      rw [← hm4] at hfin2 hm2
      cbv
      repeat' (first | apply And.intro | exact fun (_ : False → False) => by kernel_rfl | (intro h2; cbv) | apply Or.inl)
      · obtain rfl := X.a; simp only [hlen, Std_t0, Std_t1, Std_x0, Std_x1, Std_len, Std_lt, Std_le, Std_eq, Std_add, Std_sub, Std_mul, Std_not, Std_ite, Std_str, Std_bool, Std_int, Std_slen, Std_seq, Std_slt', Std_beq, Std_idx, Std_bnd, Std_same, Std_max', Std_min', Std_partI, Std_app, Std_len_app, Std_len_lit, Std_len_setc, List.length_take, List.length_drop, List.length_append, List.length_cons, List.length_nil, Int.toNat_natCast, Std_inr64, bNot, Int.ofNat_eq_natCast, Int.natCast_zero, decide_eq_true_eq, decide_eq_false_iff_not, Bool.not_eq_true, Bool.not_eq_false, Bool.not_eq_eq_eq_not, Bool.not_true, Bool.not_false, beq_iff_eq, beq_eq_false_iff_ne, ne_eq, Bool.true_eq_false, Bool.false_eq_true, cond_true, cond_false] at *; omega
      · refine ⟨(i+1, m4), ⟨by dsimp only; omega, hm2.symm⟩, by dsimp only; omega, ?_⟩
        (cbv; repeat' apply And.intro); all_goals (try (first | trivial | rfl | (rw [X.a]; rfl)))
    · have hnone : getK m t.path = none := by
        have : (getK m t.path).isSome = false := by
          rw [← Std_kmhas, ← hp]; rw [X.a, hT] at h2; rw [X.a]; exact h2
        simpa using this
      have hm3 : stepP m t = setK t.path (both t t) m := by simp only [stepP, hnone]
      refine X.call (F62 (s := t.set) (t := t.set) hst hst (by omega) (by omega) fun r c hr hc => ?_)
      have hc2 : c = (both t t).absent := by
        rw [hc]
        exact (congr (congrArg and hb) hb)
      have hfin : Std.mset (encL encP m) (.str t.path) [.str t.path, .bool c, r] = encL encP (setK t.path (both t t) m) := Std_kmset (by rw [hr, hc2]; rfl)
      have hfin2 : A.mset (T m) (.str (A.asStr (A.cell d (Int.ofNat i) 0))) [.str (A.asStr (A.cell d (Int.ofNat i) 0)), .bool c, r] = T (stepP m t) := by
        rw [hp, X.a, hT, hfin, hm3]
      obtain ⟨m4, hm4⟩ : ∃ m4, m4 = stepP m t := ⟨_, rfl⟩
      rw [← hm4] at hfin2 hm2
      cbv
      repeat' (first | apply And.intro | exact fun (_ : False → False) => by kernel_rfl | (intro h2; cbv) | apply Or.inl)
      · obtain rfl := X.a; simp only [hlen, Std_t0, Std_t1, Std_x0, Std_x1, Std_len, Std_lt, Std_le, Std_eq, Std_add, Std_sub, Std_mul, Std_not, Std_ite, Std_str, Std_bool, Std_int, Std_slen, Std_seq, Std_slt', Std_beq, Std_idx, Std_bnd, Std_same, Std_max', Std_min', Std_partI, Std_app, Std_len_app, Std_len_lit, Std_len_setc, List.length_take, List.length_drop, List.length_append, List.length_cons, List.length_nil, Int.toNat_natCast, Std_inr64, bNot, Int.ofNat_eq_natCast, Int.natCast_zero, decide_eq_true_eq, decide_eq_false_iff_not, Bool.not_eq_true, Bool.not_eq_false, Bool.not_eq_eq_eq_not, Bool.not_true, Bool.not_false, beq_iff_eq, beq_eq_false_iff_ne, ne_eq, Bool.true_eq_false, Bool.false_eq_true, cond_true, cond_false] at *; omega
      · refine ⟨(i+1, m4), ⟨by dsimp only; omega, hm2.symm⟩, by dsimp only; omega, ?_⟩
        (cbv; repeat' apply And.intro); all_goals (try (first | trivial | rfl | (rw [X.a]; rfl)))
  · have h5 : i = n := by obtain rfl := X.a; simp only [hlen, Std_t0, Std_t1, Std_x0, Std_x1, Std_len, Std_lt, Std_le, Std_eq, Std_add, Std_sub, Std_mul, Std_not, Std_ite, Std_str, Std_bool, Std_int, Std_slen, Std_seq, Std_slt', Std_beq, Std_idx, Std_bnd, Std_same, Std_max', Std_min', Std_partI, Std_app, Std_len_app, Std_len_lit, Std_len_setc, List.length_take, List.length_drop, List.length_append, List.length_cons, List.length_nil, Int.toNat_natCast, Std_inr64, bNot, Int.ofNat_eq_natCast, Int.natCast_zero, decide_eq_true_eq, decide_eq_false_iff_not, Bool.not_eq_true, Bool.not_eq_false, Bool.not_eq_eq_eq_not, Bool.not_true, Bool.not_false, beq_iff_eq, beq_eq_false_iff_ne, ne_eq, Bool.true_eq_false, Bool.false_eq_true, cond_true, cond_false] at h1; omega
    rw [h5, hn, List.take_length] at hm
    exact h _ (by rw [hT, hm])
end Go.VC.T35
end
