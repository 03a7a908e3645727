/- Part 4 of the common texts: G1 G2 K1 K2 C1 C2 V1 L1 SF V2 V3 V5 V6 G3 V7 G4 V4 N1 L0 U1 U2 U3 R1 U4 U5 U6 N3 N4 N5 N6. -/
import Derived.Sort.Walk0
import Derived.Test.YtcdafdklkhdjeaaGreatProg
import Derived.Shelf.Small.Bits
import Derived.Shelf.Sort.Plain
import Derived.Shelf.Slices.In.SortNone
import Derived.Shelf.GgSortFunc.InsertionK
import Derived.Shelf.SlSortCmp.Kit1
import Derived.Shelf.SlSortCmp.NoneTotal
import Derived.Ground.SlsfProg
import Derived.Test.YtcdafdklkhdjeaaGreatPart1
import Derived.Test.YtcdafdklkhdjeaaGreatPart2
import Derived.Test.YtcdafdklkhdjeaaGreatPart3
set_option linter.all false

section
/- The operations on typed data. -/
namespace Go.VC

section
variable {a b : Int} {k : IntKind} {x y : List UInt8} {p q : Bool} {d e : D}
theorem Std_lt : Std.lt a b = decide (a < b) := rfl
theorem Std_le : Std.le a b = decide (a ≤ b) := rfl
theorem Std_eq : Std.eq a b = (a == b) := rfl
theorem Std_add : Std.add a b = a + b := rfl
theorem Std_sub : Std.sub a b = a - b := rfl
theorem Std_mul : Std.mul a b = a * b := rfl
theorem Std_not : Std.not p = !p := rfl
theorem Std_beq : Std.beq p q = (p == q) := rfl
theorem Std_ite {c : Bool} : Std.ite c p q = (bif c then p else q) := rfl
theorem Std_seq : Std.seq x y = (x == y) := rfl
theorem Std_slt : Std.slt x y = Op.bytesLess x y := rfl
theorem Std_slen : Std.slen x = (x.length : Int) := rfl
theorem Std_max : Std.max a b = if b > a then b else a := rfl
theorem Std_min : Std.min a b = if b < a then b else a := rfl
theorem Std_idx : Std.idx a b = (0 ≤ a ∧ a < b) := rfl
theorem Std_bnd : Std.bnd a b = (0 ≤ a ∧ a ≤ b) := rfl
theorem Std_same : Std.same a b = (a = b) := rfl
theorem Std_neg1 : bNot false = true := rfl
theorem Std_neg2 : bNot true = false := rfl
theorem Std_inr64 : Std.inr .i64 a = (-9223372036854775808 ≤ a ∧ a ≤ 9223372036854775807) := rfl
theorem Std_int {n : Int} : Std.asInt (.int n) = n := rfl
theorem Std_bool : Std.asBool (.bool p) = p := rfl
theorem Std_str : Std.asStr (.str x) = x := rfl
end

/-- a list of typed rows -/
def encL {α : Type} (f : α → List D) (l : List α) : D := .list (l.map f)
theorem Std_len {α : Type} {f : α → List D} {l : List α} : Std.len (encL f l) = (l.length : Int) := by simp [Std, std, encL, rowsD]
theorem Std_cell {α : Type} {f : α → List D} {l : List α} {i : Nat} {j : Nat} (h : i < l.length) : Std.cell (encL f l) (Int.ofNat i) j = (f l[i]).getD j .nil := by
  simp [Std, std, encL, rowsD, List.getD, h]
theorem Std_cell' {α : Type} {f : α → List D} {l : List α} {i : Nat} {j : Nat} (h : i < l.length) : Std.cell (encL f l) (i : Int) j = (f l[i]).getD j .nil := Std_cell h
theorem Std_app {α : Type} {f : α → List D} {l k : List α} : Std.app (encL f l) (encL f k) = encL f (l ++ k) := by simp [Std, std, encL, rowsD]
theorem Std_lit {α : Type} {f : α → List D} {l : List α} : Std.lit (l.map f) = encL f l := rfl

theorem leaf_idx {α : Type} {f : α → List D} {l : List α} {i : Nat} (h : i < l.length) : Std.idx (Int.ofNat i) (Std.len (encL f l)) :=
  ⟨Int.natCast_nonneg _, by rw [Std_len]; exact Int.ofNat_lt.2 h⟩
theorem leaf_inc {i n : Nat} (h : i < n) (hn : n < 4294967297) : Std.inr .i64 (Std.add (Int.ofNat i) 1) := by
  rw [Std_inr64, Std_add]; simp only [Int.ofNat_eq_natCast]; omega
theorem lt_of_lt {α : Type} {f : α → List D} {l : List α} {i : Nat} (h : Std.lt (Int.ofNat i) (Std.len (encL f l)) = true) : i < l.length := by
  rw [Std_lt, Std_len] at h; have := of_decide_eq_true h; simp only [Int.ofNat_eq_natCast] at this; omega
theorem ge_of_lt {α : Type} {f : α → List D} {l : List α} {i : Nat} (h : Std.lt (Int.ofNat i) (Std.len (encL f l)) = false) : l.length ≤ i := by
  rw [Std_lt, Std_len] at h; have := of_decide_eq_false h; simp only [Int.ofNat_eq_natCast] at this; omega
theorem lit_lt {k : Int} {n : Int} {b : Bool} (h : Std.lt k n = b) : decide (k < n) = b := h
theorem all_take {α : Type} {p : α → Bool} {l : List α} {i : Nat} (h : i < l.length) (ha : (l.take i).all p = true) (hp : p l[i] = true) : (l.take (i+1)).all p = true := by
  rw [List.take_succ_eq_append_getElem h, List.all_append, ha]; simp [hp]
theorem all_false {α : Type} {p : α → Bool} {l : List α} {i : Nat} (h : i < l.length) (hp : p l[i] = false) : l.all p = false := by
  rw [List.all_eq_false]; exact ⟨l[i], List.getElem_mem h, by simp [hp]⟩
theorem Std_part {α : Type} {f : α → List D} {l : List α} {a b : Nat} : Std.part (encL f l) (a : Int) (b : Int) = encL f ((l.drop a).take (b - a)) := by
  simp [Std, std, encL, rowsD, List.map_drop, List.map_take]
theorem Std_cellI {α : Type} {f : α → List D} {l : List α} {a : Int} {j : Nat} (i : Nat) (ha : a = i) (h : i < l.length) : Std.cell (encL f l) a j = (f l[i]).getD j .nil := by
  subst ha; exact Std_cell h
theorem Std_setc {α : Type} {f : α → List D} {l : List α} {a : Int} {i off : Nat} {vs : List D} {y : α} (ha : a = i) (h : i < l.length) (hy : (f l[i]).take off ++ vs ++ (f l[i]).drop (off + vs.length) = f y) : Std.setc (encL f l) a off vs = encL f (l.set i y) := by
  subst ha
  simp only [Std, std, encL, rowsD, Int.toNat_natCast]
  congr 1
  apply List.ext_getElem (by simp)
  intro j h1 h2
  simp only [List.getElem_modify, List.getElem_map, List.getElem_set]
  split
  · rename_i hij; subst hij; exact hy
  · rfl
theorem Std_max' {a b : Int} : Std.max a b = max a b := by rw [Std_max]; split <;> omega
theorem Std_min' {a b : Int} : Std.min a b = min a b := by rw [Std_min]; split <;> omega
theorem Std_partI {α : Type} {f : α → List D} {l : List α} {a b : Int} : Std.part (encL f l) a b = encL f ((l.drop a.toNat).take (b.toNat - a.toNat)) := by
  simp [Std, std, encL, rowsD, List.map_drop, List.map_take]
theorem Std_len_app {d e : D} : Std.len (Std.app d e) = Std.len d + Std.len e := by simp [Std, std, rowsD]
theorem Std_len_lit {l : List (List D)} : Std.len (Std.lit l) = (l.length : Int) := by simp [Std, std, rowsD]
theorem lit1 {α : Type} {f : α → List D} {x : α} {l : List D} (h : l = f x) : Std.lit [l] = encL f [x] := by subst h; rfl
theorem lit0 {α : Type} {f : α → List D} : Std.lit [] = encL f [] := rfl
theorem lit2 {α : Type} {f : α → List D} {x y : α} {l k : List D} (h : l = f x) (h' : k = f y) : Std.lit [l, k] = encL f [x, y] := by subst h; subst h'; rfl
theorem Std_len_setc {d : D} {i : Int} {off : Nat} {vs : List D} : Std.len (Std.setc d i off vs) = Std.len d := by simp [Std, std, rowsD]
def slt (a b : List UInt8) : Bool := Op.bytesLess a b
theorem Std_slt' {a b : List UInt8} : Std.slt a b = slt a b := rfl
theorem ins_ok {α : Type} {f : α → List D} {l : List α} {k : Nat} {x : α} {row : List D} (h : row = f x) : Std.app (Std.part (encL f l) 0 (k : Int)) (Std.app (Std.lit [row]) (Std.part (encL f l) (k : Int) (Std.len (encL f l)))) = encL f (l.take k ++ x :: l.drop k) := by
  subst h
  have e0 := Std_part (f := f) (l := l) (a := 0) (b := k)
  have e1 := Std_part (f := f) (l := l) (a := k) (b := l.length)
  rw [show ((0 : Nat) : Int) = 0 from rfl] at e0
  rw [Std_len, e0, e1, show Std.lit [f x] = encL f [x] from rfl, Std_app, Std_app]
  simp [List.take_of_length_le]
def encJ (l : List Int) : D := encL (fun j => [D.int j]) l
theorem Std_see {l : List Int} {j : Int} : Std.see (encJ l) j = encJ (l ++ [j]) := by simp [Std, std, encJ, encL, rowsD]
theorem Std_last {l : List Int} {j : Int} : Std.last (encJ (l ++ [j])) = j := by simp [Std, std, encJ, encL, rowsD]
theorem Std_unseen {α : Type} {f : α → List D} {m : List α} {l : List Int} {j : Int} (h : Std.unseen (encL f m) (encJ l) j) : 0 ≤ j ∧ j < m.length ∧ j ∉ l := by
  obtain ⟨h1, h2, h3⟩ := h
  simp only [encL, encJ, rowsD, List.length_map] at h2 h3
  refine ⟨h1, h2, fun hj => h3 (List.mem_map.2 ⟨j, hj, rfl⟩)⟩
theorem Std_allSeen {α : Type} {f : α → List D} {m : List α} {l : List Int} (h : Std.allSeen (encL f m) (encJ l)) : ∀ j : Nat, j < m.length → (j : Int) ∈ l := by
  intro j hj
  have := h j (by simp [encL, rowsD]; exact hj)
  simp only [encJ, encL, rowsD, List.mem_map] at this
  obtain ⟨x, hx, he⟩ := this
  simp at he; subst he; exact hx
theorem encJ_len {l : List Int} : Std.len (encJ l) = (l.length : Int) := Std_len
theorem encJ_cell {l : List Int} {a : Int} : Std.asInt (Std.cell (encJ l) a 0) = l.getD a.toNat 0 := by
  simp only [Std, std, encJ, encL, rowsD]
  rcases Nat.lt_or_ge a.toNat l.length with h | h
  · simp [List.getD_eq_getElem?_getD, h]
  · simp [List.getD_eq_getElem?_getD, h]
theorem seen_all {α : Type} {m : List α} {ks : List Int} (f : Int → Int) (hnd : ks.Nodup) (hr : ∀ j ∈ ks, 0 ≤ j ∧ j < m.length) (ha : ∀ j : Nat, j < m.length → (j : Int) ∈ ks) : (ks.map f).Perm ((List.range m.length).map fun j : Nat => f (j : Int)) := by
  have hp : ks.Perm ((List.range m.length).map fun j : Nat => (j : Int)) := by
    rw [List.perm_ext_iff_of_nodup hnd]
    · intro j
      simp only [List.mem_map, List.mem_range]
      constructor
      · intro hj
        have := hr j hj
        exact ⟨j.toNat, by omega, by omega⟩
      · rintro ⟨k, hk, rfl⟩; exact ha k hk
    · refine List.Pairwise.map _ ?_ List.nodup_range
      intro a b hab h; exact hab (by omega)
  have := hp.map f
  rw [List.map_map] at this
  exact this
theorem slt_eq (a b : List UInt8) : slt a b = decide (a < b) := Go.Proofs.bytesLess_eq a b
theorem slt_irrefl (a : List UInt8) : slt a a = false := by rw [slt_eq]; simp
theorem slt_trans {a b c : List UInt8} (h : slt a b = true) (h' : slt b c = true) : slt a c = true := by
  rw [slt_eq] at *; simp at *; exact List.lt_trans h h'
theorem slt_tri {a b : List UInt8} (h : slt a b = false) (h' : slt b a = false) : a = b := by
  rw [slt_eq] at *; simp at *; exact List.le_antisymm h' h
theorem slt_asymm {a b : List UInt8} (h : slt a b = true) : slt b a = false := by
  rw [slt_eq] at *; simp at *; exact List.le_of_lt h
/-- sorted by path, no path twice -/
def idxF {α : Type} (p : α → Bool) (l : List α) : Int := match l.findIdx? p with | some i => i | none => -1
theorem idxF_some {α : Type} {p : α → Bool} {l : List α} {i : Nat} (h : i < l.length) (ha : ∀ x ∈ l.take i, p x = false) (hp : p l[i] = true) : idxF p l = i := by
  have : l.findIdx? p = some i := by
    rw [List.findIdx?_eq_some_iff_getElem]
    refine ⟨h, hp, fun j hj => ?_⟩
    have := ha l[j] (by rw [List.mem_take_iff_getElem]; exact ⟨j, by omega, rfl⟩)
    simp [this]
  rw [idxF, this]
theorem idxF_none {α : Type} {p : α → Bool} {l : List α} (ha : ∀ x ∈ l, p x = false) : idxF p l = -1 := by
  have : l.findIdx? p = none := by rw [List.findIdx?_eq_none_iff]; exact ha
  rw [idxF, this]
theorem idxF_any {α : Type} {p : α → Bool} {l : List α} : l.any p = decide (0 ≤ idxF p l) := by
  cases h : l.findIdx? p with
  | none =>
    have h1 := List.findIdx?_eq_none_iff.1 h
    have : l.any p = false := by rw [List.any_eq_false]; intro x hx; rw [h1 x hx]; simp
    simp only [idxF, h, this]; rfl
  | some i =>
    obtain ⟨h1, h2, _⟩ := List.findIdx?_eq_some_iff_getElem.1 h
    have : l.any p = true := by rw [List.any_eq_true]; exact ⟨_, List.getElem_mem h1, h2⟩
    simp only [idxF, h, this]; simp
theorem idxF_cases {α : Type} (p : α → Bool) (l : List α) : (idxF p l = -1 ∧ ∀ x ∈ l, p x = false) ∨ ∃ i, ∃ h : i < l.length, idxF p l = (i : Int) ∧ p l[i] = true ∧ ∀ x ∈ l.take i, p x = false := by
  cases h : l.findIdx? p with
  | none => exact .inl ⟨by simp only [idxF, h], List.findIdx?_eq_none_iff.1 h⟩
  | some i =>
    obtain ⟨h1, h2, h3⟩ := List.findIdx?_eq_some_iff_getElem.1 h
    refine .inr ⟨i, h1, by simp only [idxF, h], h2, fun x hx => ?_⟩
    rw [List.mem_take_iff_getElem] at hx
    obtain ⟨j, hj, rfl⟩ := hx
    have := h3 j (by omega)
    simpa using this
/-- a selected release -/
theorem take_succ' {α : Type} {l : List α} {i : Nat} (h : i < l.length) : l.take (i+1) = l.take i ++ [l[i]] := List.take_succ_eq_append_getElem h
/-- the simplifications of the leaves, as one -/
theorem SD : type_of% (And.intro @Std_len (And.intro @Std_lt (And.intro @Std_le (And.intro @Std_eq (And.intro @Std_add (And.intro @Std_sub (And.intro @Std_mul (And.intro @Std_not (And.intro @Std_ite (And.intro @Std_str (And.intro @Std_bool (And.intro @Std_int (And.intro @Std_slen (And.intro @Std_seq (And.intro @Std_slt' (And.intro @Std_beq (And.intro @Std_idx (And.intro @Std_bnd (And.intro @Std_same (And.intro @Std_max' (And.intro @Std_min' (And.intro @Std_partI (And.intro @Std_app (And.intro @Std_len_app (And.intro @Std_len_lit (And.intro @Std_len_setc (And.intro @List.length_take.{0} (And.intro @List.length_drop.{0} (And.intro @List.length_append.{0} (And.intro @List.length_cons.{0} (And.intro @List.length_nil.{0} (And.intro @Int.toNat_natCast (And.intro @Std_inr64 (And.intro @Int.ofNat_eq_natCast (And.intro @Int.natCast_zero (And.intro @decide_eq_true_eq (And.intro @decide_eq_false_iff_not (And.intro @Bool.not_eq_true (And.intro @Bool.not_eq_false (And.intro @Bool.not_eq_eq_eq_not (And.intro @Bool.not_true (And.intro @Bool.not_false (And.intro @beq_iff_eq.{0} (And.intro @beq_eq_false_iff_ne.{0} (And.intro @ne_eq.{1} (And.intro @Bool.true_eq_false (And.intro @Bool.false_eq_true (And.intro @cond_true.{1} (@cond_false.{1}))))))))))))))))))))))))))))))))))))))))))))))))) := And.intro @Std_len (And.intro @Std_lt (And.intro @Std_le (And.intro @Std_eq (And.intro @Std_add (And.intro @Std_sub (And.intro @Std_mul (And.intro @Std_not (And.intro @Std_ite (And.intro @Std_str (And.intro @Std_bool (And.intro @Std_int (And.intro @Std_slen (And.intro @Std_seq (And.intro @Std_slt' (And.intro @Std_beq (And.intro @Std_idx (And.intro @Std_bnd (And.intro @Std_same (And.intro @Std_max' (And.intro @Std_min' (And.intro @Std_partI (And.intro @Std_app (And.intro @Std_len_app (And.intro @Std_len_lit (And.intro @Std_len_setc (And.intro @List.length_take.{0} (And.intro @List.length_drop.{0} (And.intro @List.length_append.{0} (And.intro @List.length_cons.{0} (And.intro @List.length_nil.{0} (And.intro @Int.toNat_natCast (And.intro @Std_inr64 (And.intro @Int.ofNat_eq_natCast (And.intro @Int.natCast_zero (And.intro @decide_eq_true_eq (And.intro @decide_eq_false_iff_not (And.intro @Bool.not_eq_true (And.intro @Bool.not_eq_false (And.intro @Bool.not_eq_eq_eq_not (And.intro @Bool.not_true (And.intro @Bool.not_false (And.intro @beq_iff_eq.{0} (And.intro @beq_eq_false_iff_ne.{0} (And.intro @ne_eq.{1} (And.intro @Bool.true_eq_false (And.intro @Bool.false_eq_true (And.intro @cond_true.{1} (@cond_false.{1}))))))))))))))))))))))))))))))))))))))))))))))))
end Go.VC
end

section
/- The chapter's data. -/
namespace Go.VC
abbrev S := List UInt8
mutual
inductive Ty where | mk (k : Int) (m n : S) (ar : List Ty) (fl : List Fe)
inductive Fe where | mk (s : S) (t : Ty) (b : Bool)
end
def Ty.k : Ty → Int | .mk k _ _ _ _ => k
def Ty.m : Ty → S | .mk _ m _ _ _ => m
def Ty.n : Ty → S | .mk _ _ n _ _ => n
def Ty.ar : Ty → List Ty | .mk _ _ _ ar _ => ar
def Ty.fl : Ty → List Fe | .mk _ _ _ _ fl => fl
def Fe.s : Fe → S | .mk s _ _ => s
def Fe.t : Fe → Ty | .mk _ t _ => t
def Fe.b : Fe → Bool | .mk _ _ b => b
mutual
def encTy : Ty → List D | .mk k m n ar fl => [.int k, .str m, .str n, .list (encTys ar), .list (encFds fl)]
def encFd : Fe → List D | .mk s t b => .str s :: (encTy t ++ [.bool b])
def encTys : List Ty → List (List D) | [] => [] | t :: l => encTy t :: encTys l
def encFds : List Fe → List (List D) | [] => [] | f :: l => encFd f :: encFds l
end
theorem encTys_eq : ∀ l : List Ty, encTys l = l.map encTy
  | [] => by simp [encTys]
  | t :: l => by simp [encTys, encTys_eq l]
theorem encFds_eq : ∀ l : List Fe, encFds l = l.map encFd
  | [] => by simp [encFds]
  | t :: l => by simp [encFds, encFds_eq l]
theorem encTy_eq (t : Ty) : encTy t = [.int t.k, .str t.m, .str t.n, encL encTy t.ar, encL encFd t.fl] := by
  cases t; simp [encTy, encTys_eq, encFds_eq, encL, Ty.k, Ty.m, Ty.n, Ty.ar, Ty.fl]
theorem encFd_eq (f : Fe) : encFd f = [.str f.s, .int f.t.k, .str f.t.m, .str f.t.n, encL encTy f.t.ar, encL encFd f.t.fl, .bool f.b] := by
  cases f; simp [encFd, encTy_eq, Fe.s, Fe.t, Fe.b]

/-- an argument of type api.Type -/
def tyIs (t : Ty) (c0 : Int) (c1 c2 : S) (c3 c4 : D) : Prop := c0 = t.k ∧ c1 = t.m ∧ c2 = t.n ∧ c3 = encL encTy t.ar ∧ c4 = encL encFd t.fl

structure Pm where
  name : S
  var : Int
  bound : Ty
structure TE where
  name : S
  params : List Pm
  lower : Ty
  upper : Ty
structure VE where
  name : S
  params : List Pm
  ty : Ty
structure AE where
  name : S
  module : S
  target : S
structure DE where
  name : S
  note : S
structure IF where
  path : S
  types : List TE
  values : List VE
  aliases : List AE
  deprecated : List DE
structure US where
  module : S
  name : S
def encPm (p : Pm) : List D := .str p.name :: .int p.var :: encTy p.bound
def encTE (x : TE) : List D := .str x.name :: encL encPm x.params :: (encTy x.lower ++ encTy x.upper)
def encVE (x : VE) : List D := .str x.name :: encL encPm x.params :: encTy x.ty
def encAE (x : AE) : List D := [.str x.name, .str x.module, .str x.target]
def encDE (x : DE) : List D := [.str x.name, .str x.note]
def encIF (x : IF) : List D := [.str x.path, encL encTE x.types, encL encVE x.values, encL encAE x.aliases, encL encDE x.deprecated]
def encUS (x : US) : List D := [.str x.module, .str x.name]
def encS (s : S) : List D := [.str s]
theorem encPm_eq (p : Pm) : encPm p = [.str p.name, .int p.var, .int p.bound.k, .str p.bound.m, .str p.bound.n, encL encTy p.bound.ar, encL encFd p.bound.fl] := by simp [encPm, encTy_eq]
theorem encTE_eq (x : TE) : encTE x = [.str x.name, encL encPm x.params, .int x.lower.k, .str x.lower.m, .str x.lower.n, encL encTy x.lower.ar, encL encFd x.lower.fl, .int x.upper.k, .str x.upper.m, .str x.upper.n, encL encTy x.upper.ar, encL encFd x.upper.fl] := by simp [encTE, encTy_eq]
theorem encVE_eq (x : VE) : encVE x = [.str x.name, encL encPm x.params, .int x.ty.k, .str x.ty.m, .str x.ty.n, encL encTy x.ty.ar, encL encFd x.ty.fl] := by simp [encVE, encTy_eq]

section
variable {A : Alg} {d : D} {i : Nat}
theorem cellAt {α : Type} {f : α → List D} {l : List α} (ha : A = Std) (hd : d = encL f l) (h : i < l.length) (j : Nat) : A.cell d (Int.ofNat i) j = (f l[i]).getD j .nil := by subst ha hd; exact Std_cell h
theorem tyAt {l : List Ty} (ha : A = Std) (hd : d = encL encTy l) (h : i < l.length) : tyIs l[i] (A.asInt (A.cell d (Int.ofNat i) 0)) (A.asStr (A.cell d (Int.ofNat i) 1)) (A.asStr (A.cell d (Int.ofNat i) 2)) (A.cell d (Int.ofNat i) 3) (A.cell d (Int.ofNat i) 4) := by
  simp only [cellAt ha hd h]; subst ha; rw [encTy_eq]; exact ⟨rfl, rfl, rfl, rfl, rfl⟩
theorem fdTyAt {l : List Fe} (ha : A = Std) (hd : d = encL encFd l) (h : i < l.length) : tyIs l[i].t (A.asInt (A.cell d (Int.ofNat i) 1)) (A.asStr (A.cell d (Int.ofNat i) 2)) (A.asStr (A.cell d (Int.ofNat i) 3)) (A.cell d (Int.ofNat i) 4) (A.cell d (Int.ofNat i) 5) := by
  simp only [cellAt ha hd h]; subst ha; rw [encFd_eq]; exact ⟨rfl, rfl, rfl, rfl, rfl⟩
theorem fdAt {l : List Fe} (ha : A = Std) (hd : d = encL encFd l) (h : i < l.length) : A.asStr (A.cell d (Int.ofNat i) 0) = l[i].s ∧ A.asBool (A.cell d (Int.ofNat i) 6) = l[i].b := by
  simp only [cellAt ha hd h]; subst ha; rw [encFd_eq]; exact ⟨rfl, rfl⟩
theorem pmTyAt {l : List Pm} (ha : A = Std) (hd : d = encL encPm l) (h : i < l.length) : tyIs l[i].bound (A.asInt (A.cell d (Int.ofNat i) 2)) (A.asStr (A.cell d (Int.ofNat i) 3)) (A.asStr (A.cell d (Int.ofNat i) 4)) (A.cell d (Int.ofNat i) 5) (A.cell d (Int.ofNat i) 6) := by
  simp only [cellAt ha hd h]; subst ha; rw [encPm_eq]; exact ⟨rfl, rfl, rfl, rfl, rfl⟩
theorem pmAt {l : List Pm} (ha : A = Std) (hd : d = encL encPm l) (h : i < l.length) : A.asStr (A.cell d (Int.ofNat i) 0) = l[i].name ∧ A.asInt (A.cell d (Int.ofNat i) 1) = l[i].var := by
  simp only [cellAt ha hd h]; subst ha; rw [encPm_eq]; exact ⟨rfl, rfl⟩
theorem teLoAt {l : List TE} (ha : A = Std) (hd : d = encL encTE l) (h : i < l.length) : tyIs l[i].lower (A.asInt (A.cell d (Int.ofNat i) 2)) (A.asStr (A.cell d (Int.ofNat i) 3)) (A.asStr (A.cell d (Int.ofNat i) 4)) (A.cell d (Int.ofNat i) 5) (A.cell d (Int.ofNat i) 6) := by
  simp only [cellAt ha hd h]; subst ha; rw [encTE_eq]; exact ⟨rfl, rfl, rfl, rfl, rfl⟩
theorem teUpAt {l : List TE} (ha : A = Std) (hd : d = encL encTE l) (h : i < l.length) : tyIs l[i].upper (A.asInt (A.cell d (Int.ofNat i) 7)) (A.asStr (A.cell d (Int.ofNat i) 8)) (A.asStr (A.cell d (Int.ofNat i) 9)) (A.cell d (Int.ofNat i) 10) (A.cell d (Int.ofNat i) 11) := by
  simp only [cellAt ha hd h]; subst ha; rw [encTE_eq]; exact ⟨rfl, rfl, rfl, rfl, rfl⟩
theorem teAt {l : List TE} (ha : A = Std) (hd : d = encL encTE l) (h : i < l.length) : A.asStr (A.cell d (Int.ofNat i) 0) = l[i].name ∧ A.cell d (Int.ofNat i) 1 = encL encPm l[i].params := by
  simp only [cellAt ha hd h]; subst ha; rw [encTE_eq]; exact ⟨rfl, rfl⟩
theorem veTyAt {l : List VE} (ha : A = Std) (hd : d = encL encVE l) (h : i < l.length) : tyIs l[i].ty (A.asInt (A.cell d (Int.ofNat i) 2)) (A.asStr (A.cell d (Int.ofNat i) 3)) (A.asStr (A.cell d (Int.ofNat i) 4)) (A.cell d (Int.ofNat i) 5) (A.cell d (Int.ofNat i) 6) := by
  simp only [cellAt ha hd h]; subst ha; rw [encVE_eq]; exact ⟨rfl, rfl, rfl, rfl, rfl⟩
theorem veAt {l : List VE} (ha : A = Std) (hd : d = encL encVE l) (h : i < l.length) : A.asStr (A.cell d (Int.ofNat i) 0) = l[i].name ∧ A.cell d (Int.ofNat i) 1 = encL encPm l[i].params := by
  simp only [cellAt ha hd h]; subst ha; rw [encVE_eq]; exact ⟨rfl, rfl⟩
theorem aeAt {l : List AE} (ha : A = Std) (hd : d = encL encAE l) (h : i < l.length) : A.asStr (A.cell d (Int.ofNat i) 0) = l[i].name ∧ A.asStr (A.cell d (Int.ofNat i) 1) = l[i].module ∧ A.asStr (A.cell d (Int.ofNat i) 2) = l[i].target := by
  simp only [cellAt ha hd h]; subst ha; exact ⟨rfl, rfl, rfl⟩
theorem deAt {l : List DE} (ha : A = Std) (hd : d = encL encDE l) (h : i < l.length) : A.asStr (A.cell d (Int.ofNat i) 0) = l[i].name ∧ A.asStr (A.cell d (Int.ofNat i) 1) = l[i].note := by
  simp only [cellAt ha hd h]; subst ha; exact ⟨rfl, rfl⟩
theorem ifAt {l : List IF} (ha : A = Std) (hd : d = encL encIF l) (h : i < l.length) : A.asStr (A.cell d (Int.ofNat i) 0) = l[i].path ∧ A.cell d (Int.ofNat i) 1 = encL encTE l[i].types ∧ A.cell d (Int.ofNat i) 2 = encL encVE l[i].values ∧ A.cell d (Int.ofNat i) 3 = encL encAE l[i].aliases ∧ A.cell d (Int.ofNat i) 4 = encL encDE l[i].deprecated := by
  simp only [cellAt ha hd h]; subst ha; exact ⟨rfl, rfl, rfl, rfl, rfl⟩
theorem usAt {l : List US} (ha : A = Std) (hd : d = encL encUS l) (h : i < l.length) : A.asStr (A.cell d (Int.ofNat i) 0) = l[i].module ∧ A.asStr (A.cell d (Int.ofNat i) 1) = l[i].name := by
  simp only [cellAt ha hd h]; subst ha; exact ⟨rfl, rfl⟩
theorem strAt {l : List S} (ha : A = Std) (hd : d = encL encS l) (h : i < l.length) : A.asStr (A.cell d (Int.ofNat i) 0) = l[i] := by
  simp only [cellAt ha hd h]; subst ha; rfl
theorem lenIs {α : Type} {f : α → List D} {l : List α} (ha : A = Std) (hd : d = encL f l) : A.len d = Int.ofNat l.length := by subst ha hd; exact Std_len
end

/-- induction on a type's parts -/
theorem Ty.parts {P : Ty → Prop} (h : ∀ t : Ty, (∀ u ∈ t.ar, P u) → (∀ f ∈ t.fl, P f.t) → P t) : ∀ t, P t := by
  have key : ∀ (n : Nat) (t : Ty), SizeOf.sizeOf t ≤ n → P t := by
    intro n
    induction n with
    | zero => intro t ht; cases t; simp at ht
    | succ n ih =>
      intro t ht
      refine h t (fun u hu => ih u ?_) (fun f hf => ih f.t ?_)
      · cases t with
        | mk k m s ar fl =>
          have := List.sizeOf_lt_of_mem (show u ∈ ar from hu)
          simp at ht; omega
      · cases t with
        | mk k m s ar fl =>
          have := List.sizeOf_lt_of_mem (show f ∈ fl from hf)
          have h2 : SizeOf.sizeOf f.t < SizeOf.sizeOf f := by cases f; simp [Fe.t]; omega
          simp at ht; omega
  exact fun t => key _ t (Nat.le_refl _)
theorem Ty.ext {t u : Ty} (h0 : t.k = u.k) (h1 : t.m = u.m) (h2 : t.n = u.n) (h3 : t.ar = u.ar) (h4 : t.fl = u.fl) : t = u := by
  cases t; cases u; simp only [Ty.k, Ty.m, Ty.n, Ty.ar, Ty.fl] at *; subst h0 h1 h2 h3 h4; rfl
theorem Fe.ext {t u : Fe} (h0 : t.s = u.s) (h1 : t.t = u.t) (h2 : t.b = u.b) : t = u := by
  cases t; cases u; simp only [Fe.s, Fe.t, Fe.b] at *; subst h0 h1 h2; rfl
open Classical in
/-- two data are one -/
noncomputable def same {α : Type} (a b : α) : Bool := decide (a = b)
theorem same_iff {α : Type} {a b : α} : same a b = true ↔ a = b := by simp [same]
theorem same_self {α : Type} (a : α) : same a a = true := same_iff.2 rfl
theorem same_ne {α : Type} {a b : α} (h : a ≠ b) : same a b = false := by
  cases hb : same a b with
  | false => rfl
  | true => exact absurd (same_iff.1 hb) h
/-- no list in it is longer than that -/
inductive Ty.le (n : Nat) : Ty → Prop
  | mk (t : Ty) (ha : t.ar.length ≤ n) (hf : t.fl.length ≤ n) (h1 : ∀ u ∈ t.ar, Ty.le n u) (h2 : ∀ f ∈ t.fl, Ty.le n f.t) : Ty.le n t
end Go.VC
end

section
namespace Go.VC.T07
open Go Go.VC Go.Proofs
def tab : List (TypeId × TI) := [
  (3, { agg := false, cks := [.int .i64], fs := [], el := 0, ar := 0, bytes := 8 }),
  (4, { agg := false, cks := [.bool], fs := [], el := 0, ar := 0, bytes := 1 }),
  (9, { agg := false, cks := [.str], fs := [], el := 0, ar := 0, bytes := 16 }),
  (22, { agg := false, cks := [.slice 31], fs := [], el := 31, ar := 0, bytes := 24 }),
  (23, { agg := false, cks := [.slice 31], fs := [], el := 31, ar := 0, bytes := 24 }),
  (26, { agg := false, cks := [.slice 58], fs := [], el := 58, ar := 0, bytes := 24 }),
  (27, { agg := false, cks := [.slice 76], fs := [], el := 76, ar := 0, bytes := 24 }),
  (28, { agg := false, cks := [.slice 72], fs := [], el := 72, ar := 0, bytes := 24 }),
  (29, { agg := false, cks := [.slice 87], fs := [], el := 87, ar := 0, bytes := 24 }),
  (31, { agg := true, cks := [.str, .slice 58, .slice 76, .slice 72, .slice 87], fs := [(0, 9), (1, 26), (2, 27), (3, 28), (4, 29)], el := 0, ar := 0, bytes := 112 }),
  (34, { agg := false, cks := [.fn], fs := [], el := 0, ar := 0, bytes := 8 }),
  (37, { agg := false, cks := [.slice 9], fs := [], el := 9, ar := 0, bytes := 24 }),
  (40, { agg := false, cks := [.slice 43], fs := [], el := 43, ar := 0, bytes := 24 }),
  (41, { agg := false, cks := [.slice 105], fs := [], el := 105, ar := 0, bytes := 24 }),
  (43, { agg := true, cks := [.int .i64, .str, .str, .slice 43, .slice 105], fs := [(0, 3), (1, 9), (2, 9), (3, 40), (4, 41)], el := 0, ar := 0, bytes := 88 }),
  (45, { agg := false, cks := [.int .i64], fs := [], el := 0, ar := 0, bytes := 8 }),
  (48, { agg := false, cks := [.fn], fs := [], el := 0, ar := 0, bytes := 8 }),
  (55, { agg := false, cks := [.fn], fs := [], el := 0, ar := 0, bytes := 8 }),
  (56, { agg := false, cks := [.slice 62], fs := [], el := 62, ar := 0, bytes := 24 }),
  (58, { agg := true, cks := [.str, .slice 62, .int .i64, .str, .str, .slice 43, .slice 105, .int .i64, .str, .str, .slice 43, .slice 105], fs := [(0, 9), (1, 56), (2, 43), (7, 43)], el := 0, ar := 0, bytes := 216 }),
  (62, { agg := true, cks := [.str, .int .i64, .int .i64, .str, .str, .slice 43, .slice 105], fs := [(0, 9), (1, 3), (2, 43)], el := 0, ar := 0, bytes := 112 }),
  (65, { agg := false, cks := [.map 65], fs := [], el := 4, ar := 10, bytes := 8 }),
  (67, { agg := false, cks := [.fn], fs := [], el := 0, ar := 0, bytes := 8 }),
  (72, { agg := true, cks := [.str, .str, .str], fs := [(0, 9), (1, 9), (2, 9)], el := 0, ar := 0, bytes := 48, eqOk := true }),
  (76, { agg := true, cks := [.str, .slice 62, .int .i64, .str, .str, .slice 43, .slice 105], fs := [(0, 9), (1, 56), (2, 43)], el := 0, ar := 0, bytes := 128 }),
  (87, { agg := true, cks := [.str, .str], fs := [(0, 9), (1, 9)], el := 0, ar := 0, bytes := 32, eqOk := true }),
  (90, { agg := false, cks := [.fn], fs := [], el := 0, ar := 0, bytes := 8 }),
  (92, { agg := false, cks := [.fn], fs := [], el := 0, ar := 0, bytes := 8 }),
  (93, { agg := false, cks := [.fn], fs := [], el := 0, ar := 0, bytes := 8 }),
  (96, { agg := false, cks := [.slice 99], fs := [], el := 99, ar := 0, bytes := 24 }),
  (99, { agg := true, cks := [.str, .str], fs := [(0, 9), (1, 9)], el := 0, ar := 0, bytes := 32, eqOk := true }),
  (100, { agg := false, cks := [.fn], fs := [], el := 0, ar := 0, bytes := 8 }),
  (101, { agg := false, cks := [.fn], fs := [], el := 0, ar := 0, bytes := 8 }),
  (105, { agg := true, cks := [.str, .int .i64, .str, .str, .slice 43, .slice 105, .bool], fs := [(0, 9), (1, 43), (6, 4)], el := 0, ar := 0, bytes := 112 }),
  (111, { agg := false, cks := [.ptr 58], fs := [], el := 0, ar := 0, bytes := 8 }),
  (112, { agg := false, cks := [.ptr 76], fs := [], el := 0, ar := 0, bytes := 8 }),
  (113, { agg := false, cks := [.ptr 72], fs := [], el := 0, ar := 0, bytes := 8 }),
  (115, { agg := true, cks := [.str, .str, .ptr 58, .ptr 76, .ptr 72], fs := [(0, 9), (1, 9), (2, 111), (3, 112), (4, 113)], el := 0, ar := 0, bytes := 56 }),
  (128, { agg := false, cks := [.fn], fs := [], el := 0, ar := 0, bytes := 8 }),
  (130, { agg := false, cks := [.fn], fs := [], el := 0, ar := 0, bytes := 8 }),
  (132, { agg := false, cks := [.fn], fs := [], el := 0, ar := 0, bytes := 8 }),
  (133, { agg := false, cks := [.map 133], fs := [], el := 4, ar := 100, bytes := 8 }),
  (134, { agg := false, cks := [.fn], fs := [], el := 0, ar := 0, bytes := 8 }),
  (135, { agg := false, cks := [.fn], fs := [], el := 0, ar := 0, bytes := 8 }),
  (138, { agg := false, cks := [.fn], fs := [], el := 0, ar := 0, bytes := 8 }),
  (139, { agg := false, cks := [.fn], fs := [], el := 0, ar := 0, bytes := 8 }),
  (143, { agg := false, cks := [.fn], fs := [], el := 0, ar := 0, bytes := 8 }),
  (156, { agg := false, cks := [.fn], fs := [], el := 0, ar := 0, bytes := 8 }),
  (159, { agg := false, cks := [.fn], fs := [], el := 0, ar := 0, bytes := 8 }),
  (163, { agg := false, cks := [.int .u64], fs := [], el := 0, ar := 0, bytes := 8 }),
  (164, { agg := false, cks := [.fn], fs := [], el := 0, ar := 0, bytes := 8 }),
  (167, { agg := false, cks := [.fn], fs := [], el := 0, ar := 0, bytes := 8 }),
  (168, { agg := false, cks := [.slice 3], fs := [], el := 3, ar := 0, bytes := 24 }),
  (171, { agg := false, cks := [.fn], fs := [], el := 0, ar := 0, bytes := 8 }),
  (173, { agg := false, cks := [.fn], fs := [], el := 0, ar := 0, bytes := 8 }),
  (175, { agg := false, cks := [.fn], fs := [], el := 0, ar := 0, bytes := 8 }),
  (177, { agg := false, cks := [.int .i64], fs := [], el := 0, ar := 0, bytes := 8 }),
  (188, { agg := false, cks := [.int .u64], fs := [], el := 0, ar := 0, bytes := 8 }),
  (195, { agg := false, cks := [.int .u64], fs := [], el := 0, ar := 0, bytes := 8 }),
  (199, { agg := false, cks := [.ptr 3], fs := [], el := 0, ar := 0, bytes := 8 })]

def tt : TypeId → Option TI := findT tab
set_option maxRecDepth 100000 in
theorem tab_ok : tabCheck Tryz.prog tab = true := by kernel_rfl
set_option maxRecDepth 100000 in
theorem eqs_ok : eqTabCheck Tryz.prog tab = true := by kernel_rfl
theorem tt_ok : TtOk Tryz.prog tt := TtOk_of tab_ok (eqTab_ok eqs_ok)
theorem mixed : Tryz.prog.follows .mixedOrders = true := by kernel_rfl
end Go.VC.T07
end

section
/- The configurations of the functions (printed by gcfg.py). -/
namespace Go.VC.T07
open Go Go.VC
def g2 : Cfg := {tt := tt, n := 1}
def g3 : Cfg := {tt := tt, n := 74, sch := [(12, [0, 2, 1, 3, 4, 5, 6, 7, 9, 8, 10, 11, 12, 13])]}
def g4 : Cfg := {tt := tt, n := 48}
def g5 : Cfg := {tt := tt, n := 60, sch := [(7, [0, 1, 3, 4, 2, 5, 6, 7, 8, 9, 11, 12, 10, 13, 14, 15, 16, 17, 18, 19, 20, 21, 22, 23, 24, 25, 26])]}
def g6 : Cfg := {tt := tt, n := 104}
def g7 : Cfg := {tt := tt, n := 110, sch := [(23, [0, 1, 2, 3, 4, 5, 6, 7, 8, 9, 10, 11, 12, 13, 14, 15, 16, 17, 18, 19, 20])]}
def g8 : Cfg := {tt := tt, n := 171}
def g9 : Cfg := {tt := tt, n := 170}
def g10 : Cfg := {tt := tt, n := 124, sch := [(3, [0, 2, 1, 3, 4])]}
def g11 : Cfg := {tt := tt, n := 49, sch := [(10, [0, 1, 2, 3, 4, 5, 6, 7, 8, 9, 10, 11, 12, 13, 14, 15])]}
def g12 : Cfg := {tt := tt, n := 17}
def g13 : Cfg := {tt := tt, n := 25}
def g14 : Cfg := {tt := tt, n := 174, sch := [(18, [0, 1, 2, 3, 4, 5, 6, 7, 8, 9, 10]), (23, [0, 1, 2, 3, 4, 5, 6, 7, 8, 9, 10])], cuts := [6, 12]}
def g15 : Cfg := {tt := tt, n := 8}
def g16 : Cfg := {tt := tt, n := 27, sch := [(6, [0, 1, 2, 3, 4, 5, 6, 7, 8, 9])]}
def g17 : Cfg := {tt := tt, n := 26, sch := [(6, [0, 1, 2, 3, 4, 5, 6, 7, 8])]}
def g18 : Cfg := {tt := tt, n := 11, live := [48,50,51]}
def g19 : Cfg := {tt := tt, n := 54}
def g20 : Cfg := {tt := tt, n := 68, live := [53,55,51,50]}
def g21 : Cfg := {tt := tt, n := 75, sch := [(19, [0, 1, 2, 3, 4, 5, 6])]}
def g22 : Cfg := {tt := tt, n := 22}
def g23 : Cfg := {tt := tt, n := 69, sch := [(14, [0, 1, 2, 3, 4, 6, 7, 8, 9, 10, 5, 11, 12, 13, 14])], own := [10]}
def g24 : Cfg := {tt := tt, n := 55, sch := [(9, [0, 1, 2, 3, 4, 6, 7, 8, 9, 10, 5, 11, 12, 13, 14])]}
def g25 : Cfg := {tt := tt, n := 90, sch := [(6, [0, 1, 2, 3, 4, 5, 6, 7, 8, 9, 10, 11, 12, 13, 14, 15, 16, 17, 18, 19, 20, 21, 22, 23, 24, 25, 26, 27, 28, 29, 30, 31, 32, 33, 34, 35, 36, 37, 38, 39, 40, 41, 42, 43])]}
def g26 : Cfg := {tt := tt, n := 53, live := [62]}
def g27 : Cfg := {tt := tt, n := 97}
def g28 : Cfg := {tt := tt, n := 24}
def g29 : Cfg := {tt := tt, n := 39, sch := [(3, [0, 1, 2, 3, 4, 5, 6, 7, 8, 9, 10, 11, 12, 13])], cuts := [5]}
def g30 : Cfg := {tt := tt, n := 8}
def g31 : Cfg := {tt := tt, n := 29}
def g32 : Cfg := {tt := tt, n := 22, sch := [(4, [0, 1, 2, 3, 4, 5, 6, 7, 8, 9, 10, 11])]}
def g33 : Cfg := {tt := tt, n := 36, hard := [34,35], cuts := [6]}
def g34 : Cfg := {tt := tt, n := 90, sch := [(5, [0, 1, 2, 3, 4, 5, 6]), (11, [0, 1, 2, 3, 4, 5, 6, 7, 8, 9, 10, 11, 12, 13])], own := [44]}
def g35 : Cfg := {tt := tt, n := 9}
def g36 : Cfg := {tt := tt, n := 15}
def g37 : Cfg := {tt := tt, n := 23, sch := [(2, [0, 1, 2, 3, 4, 5, 6, 7])]}
def g38 : Cfg := {tt := tt, n := 28}
def g39 : Cfg := {tt := tt, n := 28}
def g40 : Cfg := {tt := tt, n := 28}
def g41 : Cfg := {tt := tt, n := 36, hard := [34,35], cuts := [6]}
def g42 : Cfg := {tt := tt, n := 96, sch := [(5, [0, 1, 2, 3, 4, 5, 6, 7, 8, 9, 10, 11, 12, 13, 14, 15])]}
def g43 : Cfg := {tt := tt, n := 11}
def g44 : Cfg := {tt := tt, n := 54, sch := [(5, [0, 1, 2, 3, 4, 5, 6]), (10, [0, 1, 2, 3, 4, 5, 6])], cuts := [1, 12]}
def g45 : Cfg := {tt := tt, n := 55, sch := [(6, [0, 1, 2, 3, 4, 5, 6, 7, 8, 9, 10, 11, 12, 13, 14, 15, 16, 17, 18, 19, 20, 21, 22, 23, 24, 25, 26, 27, 28, 29, 30, 31, 32, 33, 34, 35, 36, 37])]}
def g46 : Cfg := {tt := tt, n := 32}
def g47 : Cfg := {tt := tt, n := 38}
def g48 : Cfg := {tt := tt, n := 46, live := [49], n0 := 2}
def g49 : Cfg := {tt := tt, n := 5, n0 := 2}
def g50 : Cfg := {tt := tt, n := 9, live := [86], keep := [87], n0 := 2}
def g51 : Cfg := {tt := tt, n := 4}
def g51a : Cfg := {tt := tt, n := 4, n0 := 1}
def g52 : Cfg := {tt := tt, n := 45, cuts := [6]}
def g53 : Cfg := {tt := tt, n := 16, n0 := 2}
def g54 : Cfg := {tt := tt, n := 21, live := [91,90]}
def g54r : Cfg := {tt := tt, n := 21, n0 := 3, rnd := true, live := [91,90]}
def g55 : Cfg := {tt := tt, n := 16, live := [53], n0 := 3}
def g56 : Cfg := {tt := tt, n := 46}
def g57 : Cfg := {tt := tt, n := 26, own := [5]}
def g58 : Cfg := {tt := tt, n := 79, sch := [(8, [0, 1, 2, 3, 4, 5, 6, 7, 8]), (13, [0, 1, 2, 3, 4, 5, 6, 7, 8, 9, 10])], cuts := [4]}
def g59 : Cfg := {tt := tt, n := 45}
def g60 : Cfg := {tt := tt, n := 21, own := [5]}
def g61 : Cfg := {tt := tt, n := 27, sch := [(6, [0, 1, 2, 3, 4, 5, 6, 7, 8, 9])]}
def g62 : Cfg := {tt := tt, n := 24, own := [5]}
def g62a : Cfg := {tt := tt, n := 24, own := [5], live := [63], n0 := 2}
def g63 : Cfg := {tt := tt, n := 13, n0 := 2}
def g64 : Cfg := {tt := tt, n := 18}
def g65 : Cfg := {tt := tt, n := 19}
def g66 : Cfg := {tt := tt, n := 9}
def g67 : Cfg := {tt := tt, n := 95, sch := [(11, [0, 1, 2, 3, 4, 5, 6, 7, 8]), (15, [0, 1, 2, 3, 4, 5, 6, 7, 8])]}
def g68 : Cfg := {tt := tt, n := 8}
def g69 : Cfg := {tt := tt, n := 40, sch := [(8, [0, 1, 2, 3, 4, 5, 6, 7, 8, 9, 10, 11])]}
def g70 : Cfg := {tt := tt, n := 15, sch := [(1, [0, 1, 2, 3, 5, 6, 8, 9, 4, 7, 10, 11, 12])]}
def g71 : Cfg := {tt := tt, n := 12, sch := [(1, [0, 1, 2, 3, 5, 6, 4, 7, 8, 9])]}
def g72 : Cfg := {tt := tt, n := 18}
def g73 : Cfg := {tt := tt, n := 8}
def g74 : Cfg := {tt := tt, n := 8, own := [5,2]}
def g75 : Cfg := {tt := tt, n := 8, own := [5,2]}
def g76 : Cfg := {tt := tt, n := 8, own := [5,2]}
def g77 : Cfg := {tt := tt, n := 8, own := [5,2]}
def g78 : Cfg := {tt := tt, n := 26, sch := [(6, [0, 1, 2, 3, 4, 5, 6, 7, 8])]}
def g79 : Cfg := {tt := tt, n := 26, sch := [(6, [0, 1, 2, 3, 4, 5, 6, 7, 8])]}
def g80 : Cfg := {tt := tt, n := 32}
def g81 : Cfg := {tt := tt, n := 31}
def g82 : Cfg := {tt := tt, n := 8}
def g83 : Cfg := {tt := tt, n := 38}
def g84 : Cfg := {tt := tt, n := 32}
def g85 : Cfg := {tt := tt, n := 24}
def g86 : Cfg := {tt := tt, n := 5, live := [111], keep := [111], n0 := 2}
def g87 : Cfg := {tt := tt, n := 11}
def g88 : Cfg := {tt := tt, n := 14}
def g88a : Cfg := {tt := tt, n := 14, live := [88], n0 := 5}
def g89 : Cfg := {tt := tt, n := 4}
def g90 : Cfg := {tt := tt, n := 12, live := [117], keep := [118], n0 := 2}
def g91 : Cfg := {tt := tt, n := 4}
def g91a : Cfg := {tt := tt, n := 4, n0 := 1}
def g92 : Cfg := {tt := tt, n := 17, sch := [(1, [0, 1, 2, 3, 5, 6, 7, 8, 4, 9, 10, 11, 12])]}
def g93 : Cfg := {tt := tt, n := 18}
def g94 : Cfg := {tt := tt, n := 20}
def g95 : Cfg := {tt := tt, n := 45, sch := [(2, [0, 1, 2, 3, 4, 5, 6, 7, 8, 9, 10, 11]), (4, [0, 1, 2, 3, 4, 5, 6, 7, 8, 9, 10, 11])], cuts := [6]}
def g96 : Cfg := {tt := tt, n := 19}
def g97 : Cfg := {tt := tt, n := 8, own := [5,2]}
def g98 : Cfg := {tt := tt, n := 8, own := [5,2]}
def g99 : Cfg := {tt := tt, n := 60, sch := [(14, [0, 1, 2, 3, 4, 5])]}
def g101 : Cfg := {tt := tt, n := 10}
def g102 : Cfg := {tt := tt, n := 58}
def g103 : Cfg := {tt := tt, n := 23}
def g104 : Cfg := {tt := tt, n := 5}
def g105 : Cfg := {tt := tt, n := 19}
def g106 : Cfg := {tt := tt, n := 32}
def g107 : Cfg := {tt := tt, n := 24}
def g108 : Cfg := {tt := tt, n := 32}
def g109 : Cfg := {tt := tt, n := 32}
def g110 : Cfg := {tt := tt, n := 24}
def g111 : Cfg := {tt := tt, n := 13}
def g111a : Cfg := {tt := tt, n := 13, n0 := 3}
def g111r : Cfg := {tt := tt, n := 13, n0 := 3, rnd := true}
def g112 : Cfg := {tt := tt, n := 134, sch := [(17, [0, 1, 2, 3, 4, 5, 6, 7, 8, 9, 10, 11, 12, 13, 14])]}
def g113 : Cfg := {tt := tt, n := 8}
def g114 : Cfg := {tt := tt, n := 8, live := [115], n0 := 3}
def g115 : Cfg := {tt := tt, n := 23, live := [115], n0 := 5}
def g116 : Cfg := {tt := tt, n := 23}
def g117 : Cfg := {tt := tt, n := 5, live := [141], keep := [141], n0 := 2}
def g118 : Cfg := {tt := tt, n := 14}
def g119 : Cfg := {tt := tt, n := 14}
def g119a : Cfg := {tt := tt, n := 14, live := [119], n0 := 5}
def g120 : Cfg := {tt := tt, n := 6}
def g121 : Cfg := {tt := tt, n := 24}
def g122 : Cfg := {tt := tt, n := 14}
def g123 : Cfg := {tt := tt, n := 18}
def g124 : Cfg := {tt := tt, n := 8}
def g125 : Cfg := {tt := tt, n := 18}
def g126 : Cfg := {tt := tt, n := 8}
def g127 : Cfg := {tt := tt, n := 18}
def g128 : Cfg := {tt := tt, n := 8}
def g129 : Cfg := {tt := tt, n := 8, own := [5,2]}
def g130 : Cfg := {tt := tt, n := 49, sch := [(4, [0, 1, 2, 3, 4, 5, 6, 7, 8, 9, 10, 11, 12, 13, 14]), (6, [0, 1, 2, 3, 4, 5, 6, 7, 8, 9, 10, 11, 12, 13, 14, 15, 16, 17])]}
def g131 : Cfg := {tt := tt, n := 56, sch := [(10, [0, 1, 2, 3, 4, 5, 6, 7, 8, 9, 10, 11, 12, 13, 14, 15, 16, 17, 18, 19])]}
def g132 : Cfg := {tt := tt, n := 65, sch := [(10, [0, 1, 2, 3, 4, 5, 6, 7, 8, 9, 10, 11, 12, 13, 14, 15, 16, 17, 18, 19])]}
def g133 : Cfg := {tt := tt, n := 57}
def g134 : Cfg := {tt := tt, n := 32, sch := [(3, [0, 1, 2, 3, 4, 5, 6, 7, 8, 9, 10, 11, 12, 13, 14, 15])]}
def g135 : Cfg := {tt := tt, n := 133, sch := [(5, [0, 1, 2, 3, 4, 5, 6, 7, 8, 9, 10, 11, 12, 13, 14, 15]), (11, [0, 1, 2, 3, 4, 5, 6, 7, 8, 9, 10, 11, 12, 13, 14, 15, 16, 17]), (16, [0, 1, 2, 3, 4, 5, 6, 7, 8, 9, 10]), (17, [0, 1, 2, 3, 4, 5, 6, 7, 8, 9, 10, 11, 12, 13, 14, 15, 16, 17]), (22, [0, 1, 2, 3, 4, 5, 6, 7, 8, 9, 10]), (23, [0, 1, 2, 3, 4, 5, 6, 7, 8, 9, 10, 11, 12, 13, 14, 15, 16, 17])]}
def g136 : Cfg := {tt := tt, n := 17}
def g137 : Cfg := {tt := tt, n := 84, sch := [(1, [0, 1, 2, 3, 4, 5, 6, 7, 8, 9, 10, 11, 12, 13, 14, 15]), (3, [0, 1, 2, 3, 4, 5, 6, 7, 8, 9, 10, 11, 12, 13, 14]), (5, [0, 1, 2, 3, 4, 5, 6, 7, 8, 9, 10, 11, 12, 13]), (8, [0, 1, 2, 3, 4, 5, 6, 7, 8, 9, 10, 11, 12, 13, 14, 15])]}
def g138 : Cfg := {tt := tt, n := 168, sch := [(1, [0, 1, 2, 3, 4, 5, 6, 7, 8, 9, 10, 11, 12, 13, 14, 15]), (3, [0, 1, 2, 3, 4, 5, 6, 7, 8, 9, 10, 11, 12, 13]), (5, [0, 1, 2, 3, 4, 5, 6, 7, 8, 9, 10, 11, 12, 13, 14]), (8, [0, 1, 2, 3, 4, 5, 6, 7, 8, 9, 10, 11, 12, 13, 14, 15]), (10, [0, 1, 2, 3, 4, 5, 6, 7, 8, 9, 10, 11, 12, 13, 14, 15]), (13, [0, 1, 2, 3, 4, 5, 6, 7, 8, 9, 10, 11, 12, 13]), (15, [0, 1, 2, 3, 4, 5, 6, 7, 8, 9, 10, 11, 12, 13, 14]), (18, [0, 1, 2, 3, 4, 5, 6, 7, 8, 9, 10, 11, 12, 13, 14, 15]), (21, [0, 1, 2, 3, 4, 5, 6, 7, 8, 9, 10, 11, 12, 13, 14, 15])]}
def g139 : Cfg := {tt := tt, n := 19}
def g140 : Cfg := {tt := tt, n := 25}
def g141 : Cfg := {tt := tt, n := 13}
def g141a : Cfg := {tt := tt, n := 13, n0 := 3}
def g141r : Cfg := {tt := tt, n := 13, n0 := 3, rnd := true}
def g142 : Cfg := {tt := tt, n := 148, sch := [(17, [0, 1, 2, 3, 4, 5, 6, 7, 8, 9, 10, 11, 12, 13, 14, 15, 16])]}
def g143 : Cfg := {tt := tt, n := 28, sch := [(3, [0, 1, 2, 3, 4, 5, 6, 7, 8, 9, 10, 11, 12, 13, 14, 15])]}
def g144 : Cfg := {tt := tt, n := 19}
def g145 : Cfg := {tt := tt, n := 19}
def g146 : Cfg := {tt := tt, n := 19}
def g147 : Cfg := {tt := tt, n := 76, sch := [(3, [0, 1, 2, 3, 4, 5, 6, 7, 8, 9, 10, 11, 12, 13, 14, 15, 16, 17, 18, 19]), (5, [0, 1, 2, 3, 4, 5, 6, 7, 8, 9, 10, 11, 12, 13]), (6, [0, 1, 2, 3, 4, 5, 6, 7, 8, 9, 10, 11, 12, 13, 14, 15, 16, 17, 18, 19, 20, 21, 22, 23])]}
def g148 : Cfg := {tt := tt, n := 7}
def g149 : Cfg := {tt := tt, n := 33, sch := [(1, [0, 1, 2, 3, 4, 5, 6, 7, 8, 9]), (2, [0, 1, 2, 3, 4, 5, 6, 7, 8, 9]), (3, [0, 1, 2, 3, 4, 5, 6, 7, 8, 9])]}
def g150 : Cfg := {tt := tt, n := 15}
def g151 : Cfg := {tt := tt, n := 36}
def g152 : Cfg := {tt := tt, n := 53, sch := [(4, [0, 1, 2, 3, 4, 5, 6, 7, 8, 9, 10, 11, 12, 13, 14, 15, 16]), (6, [0, 1, 2, 3, 4, 5, 6, 7, 8, 9, 10, 11, 12, 13, 14, 15, 16, 17])]}
def g153 : Cfg := {tt := tt, n := 60, sch := [(10, [0, 1, 2, 3, 4, 5, 6, 7, 8, 9, 10, 11, 12, 13, 14, 15, 16, 17, 18, 19])]}
def g154 : Cfg := {tt := tt, n := 67, sch := [(10, [0, 1, 2, 3, 4, 5, 6, 7, 8, 9, 10, 11, 12, 13, 14, 15, 16, 17, 18, 19])]}
def g155 : Cfg := {tt := tt, n := 63}
def g156 : Cfg := {tt := tt, n := 34, sch := [(3, [0, 1, 2, 3, 4, 5, 6, 7, 8, 9, 10, 11, 12, 13, 14, 15])]}
def g157 : Cfg := {tt := tt, n := 141, sch := [(5, [0, 1, 2, 3, 4, 5, 6, 7, 8, 9, 10, 11, 12, 13, 14, 15, 16, 17]), (11, [0, 1, 2, 3, 4, 5, 6, 7, 8, 9, 10, 11, 12, 13, 14, 15, 16, 17]), (16, [0, 1, 2, 3, 4, 5, 6, 7, 8, 9, 10, 11, 12]), (17, [0, 1, 2, 3, 4, 5, 6, 7, 8, 9, 10, 11, 12, 13, 14, 15, 16, 17]), (22, [0, 1, 2, 3, 4, 5, 6, 7, 8, 9, 10, 11, 12]), (23, [0, 1, 2, 3, 4, 5, 6, 7, 8, 9, 10, 11, 12, 13, 14, 15, 16, 17])]}
def g158 : Cfg := {tt := tt, n := 90, sch := [(1, [0, 1, 2, 3, 4, 5, 6, 7, 8, 9, 10, 11, 12, 13, 14, 15]), (3, [0, 1, 2, 3, 4, 5, 6, 7, 8, 9, 10, 11, 12, 13, 14, 15, 16]), (5, [0, 1, 2, 3, 4, 5, 6, 7, 8, 9, 10, 11, 12, 13, 14, 15]), (8, [0, 1, 2, 3, 4, 5, 6, 7, 8, 9, 10, 11, 12, 13, 14, 15])]}
def g159 : Cfg := {tt := tt, n := 178, sch := [(1, [0, 1, 2, 3, 4, 5, 6, 7, 8, 9, 10, 11, 12, 13, 14, 15]), (3, [0, 1, 2, 3, 4, 5, 6, 7, 8, 9, 10, 11, 12, 13, 14, 15]), (5, [0, 1, 2, 3, 4, 5, 6, 7, 8, 9, 10, 11, 12, 13, 14, 15, 16]), (8, [0, 1, 2, 3, 4, 5, 6, 7, 8, 9, 10, 11, 12, 13, 14, 15]), (10, [0, 1, 2, 3, 4, 5, 6, 7, 8, 9, 10, 11, 12, 13, 14, 15]), (13, [0, 1, 2, 3, 4, 5, 6, 7, 8, 9, 10, 11, 12, 13, 14, 15]), (15, [0, 1, 2, 3, 4, 5, 6, 7, 8, 9, 10, 11, 12, 13, 14, 15, 16]), (18, [0, 1, 2, 3, 4, 5, 6, 7, 8, 9, 10, 11, 12, 13, 14, 15]), (21, [0, 1, 2, 3, 4, 5, 6, 7, 8, 9, 10, 11, 12, 13, 14, 15])]}
def g160 : Cfg := {tt := tt, n := 28, sch := [(1, [0, 1, 2, 3, 4, 5, 6, 7, 8])]}
def g161 : Cfg := {tt := tt, n := 82, sch := [(3, [0, 1, 2, 3, 4, 5, 6, 7, 8, 9, 10, 11, 12, 13, 14, 15, 16, 17, 18, 19, 20, 21]), (5, [0, 1, 2, 3, 4, 5, 6, 7, 8, 9, 10, 11, 12, 13, 14, 15]), (6, [0, 1, 2, 3, 4, 5, 6, 7, 8, 9, 10, 11, 12, 13, 14, 15, 16, 17, 18, 19, 20, 21, 22, 23])]}
def g162 : Cfg := {tt := tt, n := 18}
def g163 : Cfg := {tt := tt, n := 41}
def g164 : Cfg := {tt := tt, n := 32, sch := [(1, [0, 1, 2, 3, 4, 5, 6, 7, 8, 9, 10])]}
end Go.VC.T07
end

section
/- Equality of types (the reference's). -/
set_option linter.unusedSimpArgs false
set_option linter.unusedVariables false
namespace Go.VC
/-- an argument of type api.Type, as a value -/
abbrev tyPV (c0 : Int) (c1 c2 : S) (c3 c4 : D) : PV := .agg [.int .i64 c0, .str c1, .str c2, .lst 43 c3, .lst 105 c4]
theorem same_len {α : Type} {l m : List α} (h : l.length ≠ m.length) : same l m = false := same_ne fun e => h (by rw [e])
theorem same_get {α : Type} {l m : List α} {i : Nat} (h1 : i < l.length) (h2 : i < m.length) (h : l[i] ≠ m[i]) : same l m = false := same_ne fun e => by subst e; exact h rfl
theorem same_take {α : Type} {l m : List α} (hl : l.length = m.length) (h : l.take l.length = m.take l.length) : same l m = true := by
  rw [List.take_length, hl, List.take_length] at h; exact same_iff.2 h
end Go.VC
namespace Go.VC.T07
open Go Go.VC Go.Proofs

set_option maxRecDepth 100000 in
theorem F61 {l m : List Ty} {d e : D} {K : PV → List Ob → Prop} (hd : d = encL encTy l) (he : e = encL encTy m) (hl : l.length < 4294967296)
    (hq : ∀ x ∈ l, ∀ (y : Ty) (c0 : Int) (c1 c2 : S) (c3 c4 : D) (d0 : Int) (d1 d2 : S) (d3 d4 : D), tyIs x c0 c1 c2 c3 c4 → tyIs y d0 d1 d2 d3 d4 → ∀ (K' : PV → List Ob → Prop), (∀ b, b = same x y → K' (.bool b) []) → FC Tryz.prog tt 25 [] [tyPV c0 c1 c2 c3 c4, tyPV d0 d1 d2 d3 d4] K')
    (h : ∀ b, b = same l m → K (.bool b) []) : FC Tryz.prog tt 61 [] [.lst 43 d, .lst 43 e] K := by
  refine FC.enter (G := g61) tt_ok mixed ⟨Tryz.func61, by rfl, rfl⟩ rfl rfl rfl ?_
  intro A C L X
  obtain ⟨n, hn⟩ : ∃ n, n = l.length := ⟨_, rfl⟩
  have hlen : Std.len d = Int.ofNat n := by rw [hd, Std_len, hn]; rfl
  obtain ⟨n2, hn2⟩ : ∃ n, n = m.length := ⟨_, rfl⟩
  have hlen2 : Std.len e = Int.ofNat n2 := by rw [he, Std_len, hn2]; rfl
  cbv
  repeat' (first | apply And.intro | exact fun (_ : False → False) => by kernel_rfl | (intro h2; cbv) | apply Or.inl)
  · refine h _ ?_
    rw [same_len]; obtain rfl := X.a; simp only [hlen, hlen2, SD, bNot] at h2; omega
  have hml : m.length = n := by obtain rfl := X.a; simp only [hlen, hlen2, SD, bNot] at h2; omega
  refine X.loop (fun (i : Nat) => ⟨[(5, .int .i64 i), (4, .bool false), (0, .lst 43 d), (1, .lst 43 e)], []⟩) (fun i => i ≤ n ∧ l.take i = m.take i) (fun i => n - i) 0 ⟨Nat.zero_le _, by simp⟩ ?_ ?_
  · (cbv; repeat' apply And.intro); all_goals (try (first | trivial | rfl | (rw [X.a]; rfl)))
  rintro i ⟨hi, ha⟩
  cbv
  refine ⟨fun h1 => ?_, fun h1 => ?_⟩
  · have h5 : i < l.length := by obtain rfl := X.a; simp only [hlen, SD, bNot] at h1; omega
    have h6 : i < m.length := by omega
    have k1 := tyAt X.a hd h5
    have k2 := tyAt X.a he h6
    have hid : A.idx (Int.ofNat i) (A.len d) := by rw [X.a, hd]; exact leaf_idx h5
    have hie : A.idx (Int.ofNat i) (A.len e) := by rw [X.a, he]; exact leaf_idx h6
    cbv
    refine ⟨fun _ => by kernel_rfl, hid, hie, ?_⟩
    refine X.call (hq _ (List.getElem_mem h5) _ _ _ _ _ _ _ _ _ _ _ k1 k2 _ fun b hb => ?_)
    have hb' : b = same l[i] m[i] := hb
    clear hb
    cbv
    repeat' (first | apply And.intro | exact fun (_ : False → False) => by kernel_rfl | (intro h2; cbv) | apply Or.inl)
    · refine h _ ?_
      have : same l[i] m[i] = false := by rw [← hb']; obtain rfl := X.a; simpa only [SD, bNot] using h2
      exact (same_get h5 h6 fun e => by rw [e, same_self] at this; cases this).symm
    · obtain rfl := X.a; simp only [hlen, SD, bNot] at *; omega
    · have hbt : same l[i] m[i] = true := by rw [← hb']; obtain rfl := X.a; simpa only [SD, bNot] using h2
      refine ⟨i+1, ⟨by omega, by rw [take_succ' h5, take_succ' h6, ha, same_iff.1 hbt]⟩, by omega, ?_⟩
      (cbv; repeat' apply And.intro); all_goals (try (first | trivial | rfl | (rw [X.a]; rfl)))
  · have h5 : i = n := by obtain rfl := X.a; simp only [hlen, SD, bNot] at h1; omega
    subst h5
    refine h _ ?_
    rw [same_take (by omega) (by rw [← hn]; exact ha)]
end Go.VC.T07
end

section
/- Equality of types (the reference's), parameters, interfaces. -/
set_option linter.unusedSimpArgs false
set_option linter.unusedVariables false
namespace Go.VC
theorem same_ty_k {t u : Ty} (h : t.k ≠ u.k) : same t u = false := same_ne fun e => h (by rw [e])
theorem same_ty_m {t u : Ty} (h : t.m ≠ u.m) : same t u = false := same_ne fun e => h (by rw [e])
theorem same_ty_n {t u : Ty} (h : t.n ≠ u.n) : same t u = false := same_ne fun e => h (by rw [e])
theorem same_ty_f {t u : Ty} (h : same t.fl u.fl = false) : same t u = false := same_ne fun e => by rw [e, same_self] at h; cases h
theorem same_ty {t u : Ty} (h0 : t.k = u.k) (h1 : t.m = u.m) (h2 : t.n = u.n) (h4 : t.fl = u.fl) : same t.ar u.ar = same t u := by
  cases hb : same t.ar u.ar with
  | true => exact (same_iff.2 (Ty.ext h0 h1 h2 (same_iff.1 hb) h4)).symm
  | false => exact (same_ne fun e => by rw [e, same_self] at hb; cases hb).symm
theorem take_full {α : Type} {l m : List α} (hl : l.length = m.length) (h : l.take l.length = m.take l.length) : l = m := by
  rw [List.take_length, hl, List.take_length] at h; exact h
theorem tyLe_ar {n : Nat} {t : Ty} (h : Ty.le n t) : t.ar.length ≤ n := by cases h; assumption
theorem tyLe_fl {n : Nat} {t : Ty} (h : Ty.le n t) : t.fl.length ≤ n := by cases h; assumption
theorem tyLe_a {n : Nat} {t : Ty} (h : Ty.le n t) : ∀ u ∈ t.ar, Ty.le n u := by cases h; assumption
theorem tyLe_f {n : Nat} {t : Ty} (h : Ty.le n t) : ∀ f ∈ t.fl, Ty.le n f.t := by cases h; assumption
end Go.VC
namespace Go.VC.T07
open Go Go.VC Go.Proofs

set_option maxRecDepth 100000 in
set_option maxHeartbeats 1000000 in
theorem F25 : ∀ (t : Ty), Ty.le 4294967295 t → ∀ {u : Ty} {c0 : Int} {c1 c2 : S} {c3 c4 : D} {d0 : Int} {d1 d2 : S} {d3 d4 : D} {K : PV → List Ob → Prop}, tyIs t c0 c1 c2 c3 c4 → tyIs u d0 d1 d2 d3 d4 → (∀ b, b = same t u → K (.bool b) []) → FC Tryz.prog tt 25 [] [tyPV c0 c1 c2 c3 c4, tyPV d0 d1 d2 d3 d4] K := by
  refine Ty.parts fun t iha ihf => ?_
  intro hle u c0 c1 c2 c3 c4 d0 d1 d2 d3 d4 K ht hu h
  obtain ⟨t0, t1, t2, hd, hc4⟩ := ht
  obtain ⟨u0, u1, u2, he, hd4⟩ := hu
  have hl1 := tyLe_ar hle
  have hl2 := tyLe_fl hle
  refine FC.enter (G := g25) tt_ok mixed ⟨Tryz.func25, by rfl, rfl⟩ rfl rfl rfl ?_
  intro A C L X
  obtain ⟨n_c4, hn_c4⟩ : ∃ n, n = (t.fl).length := ⟨_, rfl⟩
  have hlen_c4 : Std.len c4 = Int.ofNat n_c4 := by rw [hc4, Std_len, hn_c4]; rfl
  obtain ⟨n_d4, hn_d4⟩ : ∃ n, n = (u.fl).length := ⟨_, rfl⟩
  have hlen_d4 : Std.len d4 = Int.ofNat n_d4 := by rw [hd4, Std_len, hn_d4]; rfl
  cbv
  repeat' (first | apply And.intro | exact fun (_ : False → False) => by kernel_rfl | (intro h2; cbv) | apply Or.inl)
  · refine h _ ?_
    rw [same_ty_f (same_len _)]
    obtain rfl := X.a; simp only [hlen_c4, hlen_d4, SD, bNot] at h2; omega
  rotate_left
  · refine h _ ?_
    rw [same_ty_n]; rw [← t2, ← u2]; obtain rfl := X.a; simpa only [SD, bNot] using h2
  · refine h _ ?_
    rw [same_ty_m]; rw [← t1, ← u1]; obtain rfl := X.a; simpa only [SD, bNot] using h2
  · refine h _ ?_
    rw [same_ty_k]; rw [← t0, ← u0]; obtain rfl := X.a; simpa only [SD, bNot] using h2
  rename_i g0 g1 g2
  have e0 : t.k = u.k := by rw [← t0, ← u0]; obtain rfl := X.a; simpa only [SD, bNot] using g0
  have e1 : t.m = u.m := by rw [← t1, ← u1]; obtain rfl := X.a; simpa only [SD, bNot] using g1
  have e2 : t.n = u.n := by rw [← t2, ← u2]; obtain rfl := X.a; simpa only [SD, bNot] using g2
  have hml : u.fl.length = n_c4 := by obtain rfl := X.a; simp only [hlen_c4, hlen_d4, SD, bNot] at h2; omega
  refine X.loop (fun (i : Nat) => ⟨[(5, .int .i64 i), (4, .bool false), (2, .box 0 0), (3, .box 1 0)], [.box [.int .i64 c0, .str c1, .str c2, .lst 43 c3, .lst 105 c4], .box [.int .i64 d0, .str d1, .str d2, .lst 43 d3, .lst 105 d4]]⟩) (fun i => i ≤ n_c4 ∧ t.fl.take i = u.fl.take i) (fun i => n_c4 - i) 0 ⟨Nat.zero_le _, by simp⟩ ?_ ?_
  · (cbv; repeat' apply And.intro); all_goals (try (first | trivial | rfl | (rw [X.a]; rfl)))
  rintro i ⟨hi, ha⟩
  cbv
  refine ⟨fun h1 => ?_, fun h1 => ?_⟩
  · have h5 : i < t.fl.length := by obtain rfl := X.a; simp only [hlen_c4, SD, bNot] at h1; omega
    have h6 : i < u.fl.length := by omega
    have k1 := fdTyAt X.a hc4 h5
    have k2 := fdTyAt X.a hd4 h6
    have l1 := fdAt X.a hc4 h5
    have l2 := fdAt X.a hd4 h6
    have hid : A.idx (Int.ofNat i) (A.len c4) := by rw [X.a, hc4]; exact leaf_idx h5
    have hie : A.idx (Int.ofNat i) (A.len d4) := by rw [X.a, hd4]; exact leaf_idx h6
    have hne : t.fl[i] ≠ u.fl[i] → same t u = false := fun e => same_ty_f (same_get h5 h6 e)
    cbv
    repeat' (first | apply And.intro | exact fun (_ : False → False) => by kernel_rfl | (intro h2; cbv) | apply Or.inl)
    any_goals exact hid
    any_goals exact hie
    · have hs : t.fl[i].s = u.fl[i].s := by rw [← l1.1, ← l2.1]; rename_i g3; obtain rfl := X.a; simpa only [SD, bNot] using g3
      have hb2 : t.fl[i].b = u.fl[i].b := by rw [← l1.2, ← l2.2]; obtain rfl := X.a; simpa only [SD, bNot] using h2
      refine X.call (ihf _ (List.getElem_mem h5) (tyLe_f hle _ (List.getElem_mem h5)) k1 k2 fun b hb => ?_)
      have hb' : b = same t.fl[i].t u.fl[i].t := hb
      clear hb
      cbv
      repeat' (first | apply And.intro | exact fun (_ : False → False) => by kernel_rfl | (intro h2; cbv) | apply Or.inl)
      · refine h _ ?_
        have : same t.fl[i].t u.fl[i].t = false := by rw [← hb']; obtain rfl := X.a; simpa only [SD, bNot] using h2
        exact (hne fun e => by rw [e, same_self] at this; cases this).symm
      · obtain rfl := X.a; simp only [hlen_c4, SD, bNot] at *; omega
      · have hbt : same t.fl[i].t u.fl[i].t = true := by rw [← hb']; obtain rfl := X.a; simpa only [SD, bNot] using h2
        refine ⟨i+1, ⟨by omega, by rw [take_succ' h5, take_succ' h6, ha, Fe.ext hs (same_iff.1 hbt) hb2]⟩, by omega, ?_⟩
        (cbv; repeat' apply And.intro); all_goals (try (first | trivial | rfl | (rw [X.a]; rfl)))
    · refine h _ ?_
      refine (hne fun e => ?_).symm
      rw [e] at l1
      refine absurd (l1.2.trans l2.2.symm) ?_
      obtain rfl := X.a; simpa only [SD, bNot] using h2
    · refine h _ ?_
      refine (hne fun e => ?_).symm
      rw [e] at l1
      refine absurd (l1.1.trans l2.1.symm) ?_
      obtain rfl := X.a; simpa only [SD, bNot] using h2
  · have h5 : i = n_c4 := by obtain rfl := X.a; simp only [hlen_c4, SD, bNot] at h1; omega
    subst h5
    have efl : t.fl = u.fl := take_full (by omega) (by rw [← hn_c4]; exact ha)
    cbv
    refine X.call (F61 hd he (by omega) (fun x hx y c0 c1 c2 c3 c4 d0 d1 d2 d3 d4 k1 k2 K' hK => iha x hx (tyLe_a hle x hx) k1 k2 hK) fun b hb => ?_)
    cbv
    refine h _ ?_
    rw [hb, same_ty e0 e1 e2 efl]
end Go.VC.T07
end

section
/- Keys of a map, drawn together in a list. -/
set_option linter.unusedSimpArgs false
set_option linter.unusedVariables false
namespace Go.VC
def encKB (x : S × Bool) : List D := [.str x.1, .bool x.2]
theorem keys_perm {α β : Type} {m : List α} {x0 : α} {f : α → β} {ks : List Int} (hnd : ks.Nodup) (hb : ∀ j ∈ ks, 0 ≤ j ∧ j < m.length) (ha : ∀ j : Nat, j < m.length → (j : Int) ∈ ks) : (ks.map fun j => f (m.getD j.toNat x0)).Perm (m.map f) := by
  have hp : ks.Perm ((List.range m.length).map fun j : Nat => (j : Int)) := by
    rw [List.perm_ext_iff_of_nodup hnd]
    · intro j
      simp only [List.mem_map, List.mem_range]
      constructor
      · intro hj
        have := hb j hj
        exact ⟨j.toNat, by omega, by omega⟩
      · rintro ⟨k, hk, rfl⟩; exact ha k hk
    · refine List.Pairwise.map _ ?_ List.nodup_range
      intro a b hab h; exact hab (by omega)
  have h2 := hp.map fun j => f (m.getD j.toNat x0)
  rw [List.map_map] at h2
  have h3 : (List.range m.length).map ((fun j : Int => f (m.getD j.toNat x0)) ∘ fun j : Nat => (j : Int)) = m.map f := by
    apply List.ext_getElem (by simp)
    intro i h1 h2
    simp at h1
    simp [h1]
  rw [h3] at h2
  exact h2
theorem nd_le : ∀ (n : Nat) (l : List Int), l.Nodup → (∀ j ∈ l, 0 ≤ j ∧ j < (n : Int)) → l.length ≤ n
  | 0, [], _, _ => Nat.le_refl _
  | 0, x :: l, _, h => by have := h x (by simp); omega
  | n+1, l, hnd, h => by
    have h1 := nd_le n (l.erase (n : Int)) (hnd.erase _) (fun j hj => by
      have h2 := h j (List.mem_of_mem_erase hj)
      have h3 : j ≠ (n : Int) := fun e => by subst e; exact (List.Nodup.not_mem_erase hnd) hj
      omega)
    have := List.le_length_erase (a := (n : Int)) (l := l)
    omega
theorem keys_lt {ks : List Int} {n : Nat} (hnd : ks.Nodup) (hb : ∀ j ∈ ks, 0 ≤ j ∧ j < (n : Int)) {i : Nat} (hi : i < n) (hn : (Int.ofNat i) ∉ ks) : ks.length < n := by
  have h1 : (Int.ofNat i :: ks).Nodup := List.nodup_cons.2 ⟨hn, hnd⟩
  have h2 : (Int.ofNat i :: ks) ⊆ (List.range n).map fun j : Nat => (j : Int) := by
    intro j hj
    rw [List.mem_map]
    rcases List.mem_cons.1 hj with rfl | hj
    · exact ⟨i, by simpa using hi, rfl⟩
    · have := hb j hj
      exact ⟨j.toNat, by simp; omega, by omega⟩
  have h3 := nd_le n _ h1 (fun j hj => by
    obtain ⟨k, hk, rfl⟩ := List.mem_map.1 (h2 hj)
    simp at hk; omega)
  simp at h3
  omega
end Go.VC
namespace Go.VC.T07
open Go Go.VC Go.Proofs

set_option maxRecDepth 100000 in
theorem F51 {d : D} {K : PV → List Ob → Prop} (h : K (.clos 88 [.box 1 0]) [.map .str 4 d, .box [.mp 0]]) : FC Tryz.prog tt 51 [.map .str 4 d] [.mp 0] K := by
  refine FC.enterLive (G := g51a) tt_ok mixed ⟨Tryz.func51, by rfl, rfl⟩ rfl rfl rfl ?_
  intro A C L X
  cbv
  exact h

set_option maxRecDepth 100000 in
theorem F88 {m : List (S × Bool)} {d : D} {c1 c2 : Code} {K : PV → List Ob → Prop} (hd : d = encL encKB m)
    (hy : ∀ (k : S) (l : List S) (r : D) (K' : PV → List Ob → Prop), r = encL encS l → l.length < m.length → (∀ r', r' = encL encS (l ++ [k]) → K' (.bl true) [.loop 13 [7] c1 c2 [(2, .box 1 0)] .ready, .box [.row 9 3], .dead, .row 9 r' true]) → YC Tryz.prog tt [.loop 13 [7] c1 c2 [(2, .box 1 0)] .ready, .box [.row 9 2], .row 9 r true] [.str k] K')
    (h : ∀ (l : List S) (r : D), r = encL encS l → l.Perm (m.map (·.1)) → K (.tup []) [.loop 13 [7] c1 c2 [(2, .box 2 0)] .ready, .box [.mp 3], .box [.row 9 5], .map .str 4 d, .dead, .row 9 r true]) :
    FC Tryz.prog tt 88 [.loop 13 [7] c1 c2 [(2, .box 2 0)] .ready, .box [.mp 3], .box [.row 9 4], .map .str 4 d, .row 9 (.list []) true] [.yld 0, .box 1 0] K := by
  refine FC.enterLive (G := g88a) tt_ok mixed ⟨Tryz.func88, by rfl, rfl⟩ rfl rfl rfl ?_
  intro A C L X
  have hen : (A = Std) := X.a
  cbv
  refine X.loopP (fun (x : List Int × D × D) => ⟨[(5, .it 6), (4, .mp 3), (0, .yld 0), (1, .box 1 0)], [.loop 13 [7] c1 c2 [(2, .box 2 0)] .ready, .box [.mp 3], .box [.row 9 5], .map .str 4 d, .dead, .row 9 x.2.2 true, .iter 3 x.2.1]⟩)
    (fun x => x.2.1 = encJ x.1 ∧ x.2.2 = encL encS (x.1.map fun j => (m.getD j.toNat ([], false)).1) ∧ x.1.Nodup ∧ ∀ j ∈ x.1, 0 ≤ j ∧ j < m.length) (fun x => m.length - x.1.length) ([], .list [], .list []) ⟨rfl, rfl, by simp, by simp⟩ ?_ ?_
  · refine ⟨[0, 1, 2, 3, 4, 5, 6], rfl, ?_⟩
    (cbv; repeat' apply And.intro); all_goals (try (first | trivial | rfl | (rw [X.a]; rfl)))
  rintro ⟨ks, z, r⟩ ⟨hz, hr, hnd, hb⟩
  simp only at hz hr hnd hb
  cbv
  refine ⟨fun h1 => ?_, fun j h1 => ?_⟩
  · cbv
    have ha := Std_allSeen (m := m) (f := encKB) (l := ks) (by rw [← hd, ← hz, ← X.a]; exact h1)
    refine h _ r hr ?_
    exact keys_perm hnd hb ha
  · obtain ⟨u0, u1, u2⟩ : 0 ≤ j ∧ j < m.length ∧ j ∉ ks := Std_unseen (by rw [← hd, ← hz, ← X.a]; exact h1)
    have hsee : A.see z j = encJ (ks ++ [j]) := by rw [X.a, hz, Std_see]
    have hlast : A.last (A.see z j) = j := by rw [hsee, X.a, Std_last]
    obtain ⟨i, rfl⟩ : ∃ i : Nat, j = Int.ofNat i := ⟨j.toNat, by simp only [Int.ofNat_eq_natCast]; omega⟩
    have hi : i < m.length := by simp only [Int.ofNat_eq_natCast] at u1; omega
    have hk : A.asStr (A.cell d (A.last (A.see z (Int.ofNat i))) 0) = (m.getD i ([], false)).1 := by
      rw [hlast, cellAt X.a hd hi, X.a]
      simp [encKB, Std_str, hi]
    have g1 : A.idx 0 (A.len (A.see z (Int.ofNat i))) := by rw [hsee, X.a, encJ_len, Std_idx]; simp
    have g2 : A.idx (A.last (A.see z (Int.ofNat i))) (A.len d) := by rw [hlast, X.a, hd]; exact leaf_idx hi
    cbv
    refine ⟨g1, g2, ?_⟩
    have hkl : (ks.map fun j => (m.getD j.toNat ([], false)).1).length < m.length := by
      rw [List.length_map]
      exact keys_lt hnd hb (i := i) hi u2
    refine X.round (hy _ _ _ _ hr hkl fun r' hr' => ?_)
    cbv
    refine ⟨(ks ++ [Int.ofNat i], A.see z (Int.ofNat i), r'), ⟨hsee, ?_, ?_, ?_⟩, ?_, [0, 1, 2, 3, 4, 7, 6], rfl, ?_⟩
    · show r' = _
      rw [hr', hk]; simp
    · rw [List.nodup_append]; exact ⟨hnd, by simp, fun a ha b hb => by simp at hb; subst hb; exact fun e => u2 (show (i : Int) ∈ ks from e ▸ ha)⟩
    · intro j hj
      rcases List.mem_append.1 hj with hj | hj
      · exact hb j hj
      · simp only [List.mem_singleton] at hj; subst hj; exact ⟨u0, u1⟩
    · simp only [List.length_append, List.length_map] at *; simp; omega
    · (cbv; repeat' apply And.intro); all_goals (try (first | trivial | rfl | (rw [X.a]; rfl)))
set_option maxRecDepth 100000 in
set_option maxHeartbeats 1000000 in
theorem F111 {m : List (S × Bool)} {d : D} {K : PV → List Ob → Prop} (hd : d = encL encKB m) (hm : m.length < 4294967296)
    (h : ∀ (l : List S) (r : D), r = encL encS l → l.Perm (m.map (·.1)) → K (.row 9 3) [.dead, .box [.mp 2], .map .str 4 d, .row 9 r true]) :
    FC Tryz.prog tt 111 [.row 9 (.list []) true, .box [.mp 2], .map .str 4 d] [.row 9 0, .clos 88 [.box 1 0]] K := by
  refine FC.enterLive (G := g111a) tt_ok mixed ⟨Tryz.func111, by rfl, rfl⟩ rfl rfl rfl ?_
  intro A C L X
  cbv
  refine X.range rfl ⟨Tryz.func88, by rfl, rfl⟩ rfl [(2, .box 4 0)] ?_ ?_
  · cbv
  cbv
  refine X.call (F88 hd ?_ ?_)
  · intro k l r K' hr hl hK
    refine YC.enter (G := g111r) tt_ok mixed rfl rfl rfl rfl rfl ?_
    intro A C L X
    have hb : A.bnd (A.add (A.len r) (A.len (A.lit [[.str k]]))) 4294967296 := by
      obtain rfl := X.a; rw [hr]; simp only [SD, bNot]; omega
    have q := hK (A.app r (A.lit [[.str k]])) (by rw [X.a, hr]; exact Std_app (k := [k]))
    cbv
    exact ⟨hb, q⟩
  · intro l r hr hp
    cbv
    exact h l r hr hp
set_option maxRecDepth 100000 in
theorem F86 {m : List (S × Bool)} {d : D} {K : PV → List Ob → Prop} (hd : d = encL encKB m) (hm : m.length < 4294967296)
    (h : ∀ (l : List S) (r : D), r = encL encS l → l.Perm (m.map (·.1)) → K (.row 9 2) [.box [.mp 1], .map .str 4 d, .row 9 r true]) :
    FC Tryz.prog tt 86 [.box [.mp 1], .map .str 4 d] [.clos 88 [.box 0 0]] K := by
  refine FC.enterLive (G := g86) tt_ok mixed ⟨Tryz.func86, by rfl, rfl⟩ rfl rfl rfl ?_
  intro A C L X
  cbv
  refine X.call (F111 hd hm fun l r hr hp => ?_)
  cbv
  exact h l r hr hp
end Go.VC.T07
end

section
/- The library's sorting contract for strings at this program (written by the kit's lay-plain.mjs). -/
namespace Go.Proofs
open Go.Shelf
def Tryz.lays128_ren : Go.Shelf.Ren := ⟨fun | 128 => 139 | n => n, fun | 51 => 186 | 3 => 3 | 4 => 4 | 46 => 163 | 5 => 5 | 9 => 9 | n => n, fun | n => n⟩
theorem Tryz.lays128 : Go.Proofs.Lays.n128 Tryz.prog Tryz.lays128_ren := {
  mixed := by kernel_rfl
  f128 := Tryz.func139.trans (congrArg some (by kernel_rfl))
  t3 := Tryz.underlying3
  a3 := Tryz.isAgg3
  z3 := Tryz.sizeOf3
  v3 := Tryz.zeroValue3
  t4 := Tryz.underlying4
  a4 := Tryz.isAgg4
  z4 := Tryz.sizeOf4
  v4 := Tryz.zeroValue4
  t5 := Tryz.underlying5
  a5 := Tryz.isAgg5
  z5 := Tryz.sizeOf5
  v5 := Tryz.zeroValue5
  t9 := Tryz.underlying9
  a9 := Tryz.isAgg9
  z9 := Tryz.sizeOf9
  v9 := Tryz.zeroValue9
  t46 := Tryz.underlying163
  a46 := Tryz.isAgg163
  z46 := Tryz.sizeOf163
  v46 := Tryz.zeroValue163
  t51 := Tryz.underlying186
  a51 := Tryz.isAgg186
  z51 := Tryz.sizeOf186
  v51 := Tryz.zeroValue186 }
theorem Tryz.bits_Len32 (x : Int) (w : World) (h0 : 0 ≤ x) (h1 : x ≤ 4294967295) :
    Calls Tryz.prog 139 #[.int .u32 x] w fun e w' => e = .returned (.int .i64 (Lib.bitLen x.toNat)) ∧ w' = w := Any.bits_Len32 Tryz.lays128 x w h0 h1
def Tryz.lays125_ren : Go.Shelf.Ren := ⟨fun | 125 => 113 | 128 => 139 | 129 => 140 | n => n, fun | 46 => 163 | 3 => 3 | 51 => 186 | 53 => 188 | 4 => 4 | 5 => 5 | 9 => 9 | n => n, fun | n => n⟩
theorem Tryz.lays125 : Go.Proofs.Lays.n125 Tryz.prog Tryz.lays125_ren := {
  mixed := by kernel_rfl
  f125 := Tryz.func113.trans (congrArg some (by kernel_rfl))
  f128 := Tryz.func139.trans (congrArg some (by kernel_rfl))
  f129 := Tryz.func140.trans (congrArg some (by kernel_rfl))
  t3 := Tryz.underlying3
  a3 := Tryz.isAgg3
  z3 := Tryz.sizeOf3
  v3 := Tryz.zeroValue3
  t4 := Tryz.underlying4
  a4 := Tryz.isAgg4
  z4 := Tryz.sizeOf4
  v4 := Tryz.zeroValue4
  t5 := Tryz.underlying5
  a5 := Tryz.isAgg5
  z5 := Tryz.sizeOf5
  v5 := Tryz.zeroValue5
  t9 := Tryz.underlying9
  a9 := Tryz.isAgg9
  z9 := Tryz.sizeOf9
  v9 := Tryz.zeroValue9
  t46 := Tryz.underlying163
  a46 := Tryz.isAgg163
  z46 := Tryz.sizeOf163
  v46 := Tryz.zeroValue163
  t51 := Tryz.underlying186
  a51 := Tryz.isAgg186
  z51 := Tryz.sizeOf186
  v51 := Tryz.zeroValue186
  t53 := Tryz.underlying188
  a53 := Tryz.isAgg188
  z53 := Tryz.sizeOf188
  v53 := Tryz.zeroValue188 }
theorem Tryz.bits_Len (x : Int) (w : World) (h0 : 0 ≤ x) (h1 : x ≤ 18446744073709551615) :
    Calls Tryz.prog 113 #[.int .u64 x] w fun e w' => e = .returned (.int .i64 (Lib.bitLen x.toNat)) ∧ w' = w := Any.bits_Len Tryz.lays125 x w h0 h1
def Tryz.lays129_ren : Go.Shelf.Ren := ⟨fun | 129 => 140 | n => n, fun | 53 => 188 | 3 => 3 | 4 => 4 | 46 => 163 | 5 => 5 | 9 => 9 | n => n, fun | n => n⟩
theorem Tryz.lays129 : Go.Proofs.Lays.n129 Tryz.prog Tryz.lays129_ren := {
  mixed := by kernel_rfl
  f129 := Tryz.func140.trans (congrArg some (by kernel_rfl))
  t3 := Tryz.underlying3
  a3 := Tryz.isAgg3
  z3 := Tryz.sizeOf3
  v3 := Tryz.zeroValue3
  t4 := Tryz.underlying4
  a4 := Tryz.isAgg4
  z4 := Tryz.sizeOf4
  v4 := Tryz.zeroValue4
  t5 := Tryz.underlying5
  a5 := Tryz.isAgg5
  z5 := Tryz.sizeOf5
  v5 := Tryz.zeroValue5
  t9 := Tryz.underlying9
  a9 := Tryz.isAgg9
  z9 := Tryz.sizeOf9
  v9 := Tryz.zeroValue9
  t46 := Tryz.underlying163
  a46 := Tryz.isAgg163
  z46 := Tryz.sizeOf163
  v46 := Tryz.zeroValue163
  t53 := Tryz.underlying188
  a53 := Tryz.isAgg188
  z53 := Tryz.sizeOf188
  v53 := Tryz.zeroValue188 }
theorem Tryz.bits_Len64 (x : Int) (w : World) (h0 : 0 ≤ x) (h1 : x ≤ 18446744073709551615) :
    Calls Tryz.prog 140 #[.int .u64 x] w fun e w' => e = .returned (.int .i64 (Lib.bitLen x.toNat)) ∧ w' = w := Any.bits_Len64 Tryz.lays129 x w h0 h1
def Tryz.lays190_ren : Go.Shelf.Ren := ⟨fun | 190 => 87 | 125 => 113 | 258 => 112 | 128 => 139 | 129 => 140 | 302 => 130 | 303 => 131 | 304 => 132 | 305 => 133 | 306 => 134 | 307 => 135 | 308 => 136 | 309 => 137 | 310 => 138 | 333 => 147 | 329 => 148 | 330 => 149 | 334 => 150 | 335 => 151 | 336 => 120 | 344 => 160 | n => n, fun | 31 => 37 | 9 => 9 | 3 => 3 | 46 => 163 | 0 => 0 | 51 => 186 | 53 => 188 | 4 => 4 | 183 => 178 | 182 => 177 | 131 => 183 | 5 => 5 | 218 => 195 | 222 => 199 | 228 => 206 | 229 => 207 | n => n, fun | n => n⟩
theorem Tryz.lays190 : Go.Proofs.Lays.n190 Tryz.prog Tryz.lays190_ren := {
  mixed := by kernel_rfl
  f125 := Tryz.func113.trans (congrArg some (by kernel_rfl))
  f128 := Tryz.func139.trans (congrArg some (by kernel_rfl))
  f129 := Tryz.func140.trans (congrArg some (by kernel_rfl))
  f190 := Tryz.func87.trans (congrArg some (by kernel_rfl))
  f258 := Tryz.func112.trans (congrArg some (by kernel_rfl))
  f302 := Tryz.func130.trans (congrArg some (by kernel_rfl))
  f303 := Tryz.func131.trans (congrArg some (by kernel_rfl))
  f304 := Tryz.func132.trans (congrArg some (by kernel_rfl))
  f305 := Tryz.func133.trans (congrArg some (by kernel_rfl))
  f306 := Tryz.func134.trans (congrArg some (by kernel_rfl))
  f307 := Tryz.func135.trans (congrArg some (by kernel_rfl))
  f308 := Tryz.func136.trans (congrArg some (by kernel_rfl))
  f309 := Tryz.func137.trans (congrArg some (by kernel_rfl))
  f310 := Tryz.func138.trans (congrArg some (by kernel_rfl))
  f329 := Tryz.func148.trans (congrArg some (by kernel_rfl))
  f330 := Tryz.func149.trans (congrArg some (by kernel_rfl))
  f333 := Tryz.func147.trans (congrArg some (by kernel_rfl))
  f334 := Tryz.func150.trans (congrArg some (by kernel_rfl))
  f335 := Tryz.func151.trans (congrArg some (by kernel_rfl))
  f336 := Tryz.func120.trans (congrArg some (by kernel_rfl))
  f344 := Tryz.func160.trans (congrArg some (by kernel_rfl))
  t0 := Tryz.underlying0
  a0 := Tryz.isAgg0
  z0 := Tryz.sizeOf0
  v0 := Tryz.zeroValue0
  t3 := Tryz.underlying3
  a3 := Tryz.isAgg3
  z3 := Tryz.sizeOf3
  v3 := Tryz.zeroValue3
  t4 := Tryz.underlying4
  a4 := Tryz.isAgg4
  z4 := Tryz.sizeOf4
  v4 := Tryz.zeroValue4
  t5 := Tryz.underlying5
  a5 := Tryz.isAgg5
  z5 := Tryz.sizeOf5
  v5 := Tryz.zeroValue5
  t9 := Tryz.underlying9
  a9 := Tryz.isAgg9
  z9 := Tryz.sizeOf9
  v9 := Tryz.zeroValue9
  t31 := Tryz.underlying37
  a31 := Tryz.isAgg37
  z31 := Tryz.sizeOf37
  v31 := Tryz.zeroValue37
  t46 := Tryz.underlying163
  a46 := Tryz.isAgg163
  z46 := Tryz.sizeOf163
  v46 := Tryz.zeroValue163
  t51 := Tryz.underlying186
  a51 := Tryz.isAgg186
  z51 := Tryz.sizeOf186
  v51 := Tryz.zeroValue186
  t53 := Tryz.underlying188
  a53 := Tryz.isAgg188
  z53 := Tryz.sizeOf188
  v53 := Tryz.zeroValue188
  t131 := Tryz.underlying183
  a131 := Tryz.isAgg183
  z131 := Tryz.sizeOf183
  v131 := Tryz.zeroValue183
  t182 := Tryz.underlying177
  a182 := Tryz.isAgg177
  z182 := Tryz.sizeOf177
  v182 := Tryz.zeroValue177
  t183 := Tryz.underlying178
  a183 := Tryz.isAgg178
  z183 := Tryz.sizeOf178
  v183 := Tryz.zeroValue178
  t218 := Tryz.underlying195
  a218 := Tryz.isAgg195
  z218 := Tryz.sizeOf195
  v218 := Tryz.zeroValue195
  t222 := Tryz.underlying199
  a222 := Tryz.isAgg199
  z222 := Tryz.sizeOf199
  v222 := Tryz.zeroValue199
  t228 := Tryz.underlying206
  a228 := Tryz.isAgg206
  z228 := Tryz.sizeOf206
  v228 := Tryz.zeroValue206
  t229 := Tryz.underlying207
  a229 := Tryz.isAgg207
  z229 := Tryz.sizeOf207
  v229 := Tryz.zeroValue207 }
open Go.Sort Go.RowKit in
theorem Tryz.slices_Sort_string (blk off cap : Nat) (ss : List (List UInt8)) (w : World) (hH : Holds encStr w blk off ss.toArray) (hblk : blk < w.heap.size) (hsz : ss.length < 4611686018427387904) :
    Calls Tryz.prog 87 #[.slice (some ⟨blk, off, none⟩) ss.length cap] w fun e w' =>
      e = .returned (.tuple #[]) ∧ ∃ n os, w' = grow (putRow encStr (Sort.ahead w n) blk off (ss.mergeSort fun x y => decide (x ≤ y)).toArray) os := Any.slices_Sort_string Tryz.lays190 blk off cap ss w hH hblk hsz
open Go.RowKit Go.Sort in
theorem Tryz.slices_Sort_string_none (p : Option Addr) (cap : Nat) (w : World) :
    Calls Tryz.prog 87 #[.slice p 0 cap] w fun e w' => e = .returned (.tuple #[]) ∧ w' = w := Any.slices_Sort_string_none Tryz.lays190 p cap w
end Go.Proofs
end

section
/- The engine: a function that turns a row in place (a sort by the library's contract). -/
namespace Go.VC
open Go Go.Sort Go.Proofs

inductive All2 {α β : Type} (R : α → β → Prop) : List α → List β → Prop
  | nil : All2 R [] []
  | cons {a b x y} (h : R a b) (t : All2 R x y) : All2 R (a :: x) (b :: y)
theorem All2.length {α β : Type} {R : α → β → Prop} {x : List α} {y : List β} (h : All2 R x y) : x.length = y.length := by
  induction h with
  | nil => rfl
  | cons _ _ ih => simp [ih]
theorem All2.get {α β : Type} {R : α → β → Prop} {x : List α} {y : List β} (h : All2 R x y) (i : Nat) (h1 : i < x.length) (h2 : i < y.length) : R x[i] y[i] := by
  induction h generalizing i with
  | nil => simp at h1
  | cons h t ih =>
    cases i with
    | zero => exact h
    | succ i => exact ih i (by simpa using h1) (by simpa using h2)
theorem All2.of_get {α β : Type} {R : α → β → Prop} : ∀ {x : List α} {y : List β}, x.length = y.length → (∀ i (h1 : i < x.length) (h2 : i < y.length), R x[i] y[i]) → All2 R x y
  | [], [], _, _ => .nil
  | a :: x, b :: y, hl, h => .cons (h 0 (by simp) (by simp)) (All2.of_get (by simpa using hl) fun i h1 h2 => h (i+1) (by simpa using h1) (by simpa using h2))
  | [], _ :: _, hl, _ => by simp at hl
  | _ :: _, [], hl, _ => by simp at hl
theorem All2.perm {α β : Type} {R : α → β → Prop} {x x' : List α} (hp : x'.Perm x) : ∀ {y : List β}, All2 R x y → ∃ y', y'.Perm y ∧ All2 R x' y' := by
  induction hp with
  | nil => intro y h; cases h; exact ⟨[], .nil, .nil⟩
  | cons a _ ih =>
    intro y h
    cases h with
    | cons h t =>
      obtain ⟨y', h1, h2⟩ := ih t
      exact ⟨_ :: y', h1.cons _, .cons h h2⟩
  | swap a b l =>
    intro y h
    cases h with
    | cons h t =>
      cases t with
      | cons h' t => exact ⟨_ :: _ :: _, .swap _ _ _, .cons h' (.cons h t)⟩
  | trans _ _ ih1 ih2 =>
    intro y h
    obtain ⟨y1, h1, h2⟩ := ih2 h
    obtain ⟨y2, h3, h4⟩ := ih1 h2
    exact ⟨y2, h3.trans h1, h4⟩

/-- raw cells and a row of data -/
structure RelV (tt : TypeId → Option TI) (Pp : Per) (e : TypeId) (us : List Value) (row : List D) : Prop where
  l1 : us.length = (cksOf tt e).length
  l2 : row.length = (cksOf tt e).length
  rd : ∀ (j : Nat) d ck, row[j]? = some d → (cksOf tt e)[j]? = some ck → ∃ v, us[j]? = some v ∧ RD tt Pp ck v d

section
variable {α : Type} [Inhabited α] {P : Program} {tt : TypeId → Option TI} {f : FuncId} {e : TypeId}

theorem ex_clos {g : FuncId} : ∀ E Pp vs, VRL tt E Pp vs [.clos g []] → vs = [.func (.func g) #[] #[]] := by
  intro E Pp vs h
  cases h with
  | cons v _ vs _ h1 h2 =>
  cases h2
  cases h1 with
  | clos _ cs _ hcs =>
  cases hcs
  rfl
theorem ex_nil : ∀ E Pp vs, VRL tt E Pp vs [] → vs = [] := by
  intro E Pp vs h
  cases h
  rfl

theorem flatK_one (enc : α → Value) (d : Array α) : flatK (fun x => [enc x]) 1 d = d.map enc := by
  apply Array.ext (by simp)
  intro i h1 h2
  have hi : i < d.size := by simpa using h2
  simp only [flatK, Array.getElem_map, Array.getElem_range, Nat.div_one, Nat.mod_one]
  rw [getElem!_pos d i hi]
  rfl
theorem holds_one {enc : α → Value} {w : World} {blk off : Nat} {d : Array α} (h : HoldsK (fun x => [enc x]) 1 w blk off d) : Holds enc w blk off d := by
  intro j hj
  have := h j (by rw [size_flatK]; omega)
  rw [flatK_one] at this
  rw [getElem!_pos (d.map enc) j (by simpa using hj)] at this
  rw [getElem!_pos d j hj]
  simpa using this
theorem putRow_one (enc : α → Value) (w : World) (blk off : Nat) (d : Array α) : putRow enc w blk off d = putRow id w blk off (flatK (fun x => [enc x]) 1 d) := by
  rw [flatK_one]
  unfold putRow
  congr 1
  funext c
  unfold putCells
  congr 1
  funext k x
  simp only [Array.size_map, id]
  split
  · rename_i h
    rw [getElem!_pos d (k - off) (by omega), getElem!_pos (d.map enc) (k - off) (by simp; omega)]
    simp
  · rfl

theorem divmod_lt {t n k : Nat} (h : t < n * k) : t / k < n ∧ t % k < k ∧ t = t / k * k + t % k := by
  have hk : 0 < k := by
    rcases Nat.eq_zero_or_pos k with h' | h'
    · subst h'; simp at h
    · exact h'
  exact ⟨(Nat.div_lt_iff_lt_mul hk).2 h, Nat.mod_lt _ hk, by rw [Nat.mul_comm]; exact (Nat.div_add_mod t k).symm⟩

/-- a sort: the row holds its rows in another order, no later one less than an earlier one -/
theorem sort_fc (enc : α → List Value) (cf : α → α → Int) (ltD : List D → List D → Bool) (ex : List PV) (ev : List Value) (hex : ∀ E Pp vs, VRL tt E Pp vs ex → vs = ev)
    (hk : ∀ x, (enc x).length = (cksOf tt e).length)
    (hS : ∀ (blk off cap : Nat) (d : Array α) (w : World), HoldsK enc (cksOf tt e).length w blk off d → blk < w.heap.size → d.size < 4611686018427387904 →
      Calls P f ⟨.slice (some ⟨blk, off, none⟩) d.size cap :: ev⟩ w fun e' w' => e' = .returned (.tuple #[]) ∧ ∃ d' n os, PermIn 0 d.size d d' ∧ SortedIn (ltOf cf) 0 d.size d' ∧ w' = sortWorldK enc (cksOf tt e).length w blk off n d' os)
    (hN : ∀ (p : Option Addr) (cap : Nat) (w : World), Calls P f ⟨.slice p 0 cap :: ev⟩ w fun e' w' => e' = .returned (.tuple #[]) ∧ w' = w)
    (hE : ∀ args w, (callFunc f args).run P w = .ok (.enter f args) w)
    (rows : List (List D)) (hn : rows.length < 4611686018427387904)
    (hα : ∀ Pp us row, row ∈ rows → RelV tt Pp e us row → ∃ x : α, enc x = us)
    (hlt : ∀ Pp x y rx ry, RelV tt Pp e (enc x) rx → RelV tt Pp e (enc y) ry → ltOf cf x y = ltD rx ry)
    {K : PV → List Ob → Prop} (h : ∀ rows', rows'.Perm rows → (∀ i j (hi : i < rows'.length) (hj : j < rows'.length), i < j → ltD rows'[j] rows'[i] = false) → K (.tup []) [.row e (.list rows') true]) :
    FC P tt f [.row e (.list rows) true] (.row e 0 :: ex) K := by
  intro E Pp w vals hw hv
  cases hv with
  | cons v0 _ vs0 _ hv0 hv1 =>
  have hvs0 := hex _ _ _ hv1
  subst hvs0
  have hEl := hw.len
  obtain ⟨ri, hri, hor⟩ := hw.ob 0 _ rfl rfl
  refine .inl ⟨hE _ _, ?_⟩
  have none_case : ∀ p cap, v0 = .slice p 0 cap → rows = [] → Calls P f ⟨v0 :: vs0⟩ w (FCPost tt E Pp [.row e (.list rows) true] w K) := by
    rintro p cap rfl rfl
    refine (hN p cap w).mono ?_
    rintro e' w' ⟨rfl, rfl⟩
    refine ⟨_, E, Pp, [.row e (.list []) true], _, rfl, .refl _, fun _ _ h => h, hw, .tup [] [] .nil, h [] (List.Perm.refl _) (fun i j hi => by simp at hi), Fr.refl _ _, fun _ _ h => .inl h, ?_⟩
    intro i o ri b ho hl hE' hb
    exact .inr ⟨i, o, ri, ho, hl, hE', hb⟩
  cases hv0 with
  | row0 _ _ hr =>
    rw [hri] at hr; cases hr
    simp only [OR, D.list.injEq] at hor
    exact none_case _ _ rfl hor
  | row _ _ gb o len cap hr =>
    rw [hri] at hr; cases hr
    simp only [OR, D.list.injEq] at hor
    obtain ⟨vs, T, rows2, hheap, hrr, hlen, hcap, hfit, hrow, hno, _⟩ := hor
    subst hrr
    obtain ⟨k, hkd⟩ : ∃ k, k = (cksOf tt e).length := ⟨_, rfl⟩
    rcases Nat.eq_zero_or_pos len with h0 | hpos
    · subst h0
      exact none_case _ _ rfl (List.eq_nil_of_length_eq_zero hlen)
    have hgb : gb < w.heap.size := by
      rcases Nat.lt_or_ge gb w.heap.size with h' | h'
      · exact h'
      · rw [Array.getElem?_eq_none h'] at hheap; simp at hheap
    have hbound : o + len * k ≤ vs.length := by
      have := Nat.mul_le_mul_right k hcap
      rw [← hkd] at hfit; omega
    -- the rows as they lie
    have hus : ∀ i (hi : i < len), RelV tt Pp e ((vs.drop (o + i * k)).take k) (rows[i]'(by omega)) := by
      intro i hi
      obtain ⟨h1, h2⟩ := hrow i rows[i] (by simp [hlen, hi])
      have hin : (i + 1) * k ≤ len * k := Nat.mul_le_mul_right k hi
      rw [Nat.add_mul, Nat.one_mul] at hin
      refine ⟨by rw [List.length_take, List.length_drop, ← hkd]; omega, h1, ?_⟩
      intro j dd ck hj hck
      obtain ⟨v, hv, hrd⟩ := h2 j dd ck hj hck
      have hjk : j < k := by rw [hkd]; exact (List.getElem?_eq_some_iff.1 hck).1
      refine ⟨v, ?_, hrd⟩
      rw [List.getElem?_take_of_lt hjk, List.getElem?_drop]
      rw [← hkd] at hv; exact hv
    have hx : ∀ i (hi : i < len), ∃ x : α, enc x = (vs.drop (o + i * k)).take k := fun i hi => hα Pp _ _ (List.getElem_mem _) (hus i hi)
    obtain ⟨xs, hxl, hxs⟩ : ∃ xs : List α, xs.length = len ∧ ∀ i (hi : i < xs.length), enc xs[i] = (vs.drop (o + i * k)).take k := by
      refine ⟨(List.range len).map fun i => if hi : i < len then Classical.choose (hx i hi) else default, by simp, ?_⟩
      intro i hi
      have hi' : i < len := by simpa using hi
      simp only [List.getElem_map, List.getElem_range, hi', dif_pos]
      exact Classical.choose_spec (hx i hi')
    have hsz : xs.toArray.size = len := by simp [hxl]
    have hR : All2 (fun x r => RelV tt Pp e (enc x) r) xs rows := All2.of_get (by omega) fun i h1 h2 => by
      rw [hxs i h1]; exact hus i (by omega)
    have flat : ∀ (d : Array α), d.size = len → ∀ t, t < len * k → ∃ (x : α) (hq : t / k < d.size), x = d[t / k] ∧ (flatK enc k d)[t]! = (enc x)[t % k]! := by
      intro d hd t ht
      obtain ⟨h1, h2, h3⟩ := divmod_lt ht
      refine ⟨_, by omega, rfl, ?_⟩
      rw [get_flatK enc k d t (by rw [hd]; exact ht), getElem!_pos d (t / k) (by omega)]
    have hH : HoldsK enc k w gb o xs.toArray := by
      intro t ht
      rw [size_flatK, hsz] at ht
      obtain ⟨h1, h2, h3⟩ := divmod_lt ht
      obtain ⟨x, hq, hx1, hx2⟩ := flat xs.toArray hsz t ht
      refine ⟨?_, ?_⟩
      · simp only [World.cell?, hheap, Option.isSome_none, Bool.false_eq_true, if_false, id]
        rw [hx2, hx1]
        have hlt2 : t / k < xs.length := by omega
        have e1 := hxs (t / k) hlt2
        simp only [List.getElem_toArray]
        rw [e1]
        have hl2 : ((vs.drop (o + t / k * k)).take k).length = k := by rw [← e1, hk, hkd]
        rw [getElem!_pos _ (t % k) (by omega)]
        rw [List.getElem_take, List.getElem_drop]
        have hlt3 : o + t < vs.length := by omega
        have : (⟨vs⟩ : Array Value)[o + t]? = some vs[o + t] := by simp [hlt3]
        rw [this]
        congr 2
        omega
      · simp only [World.frozen?, hheap]
        simp
    rw [← hkd] at hS
    have hC := hS gb o cap xs.toArray w hH hgb (by rw [hsz, ← hlen]; exact hn)
    rw [hsz] at hC
    refine hC.mono ?_
    rintro e' w' ⟨rfl, d', n, os, hp, hs, rfl⟩
    have hd' : d'.size = len := by rw [hp.1, hsz]
    have hperm : d'.toList.Perm xs := by
      have := hp.2.2
      rw [Array.extract_eq_self_of_le (by omega), Array.extract_eq_self_of_le (by omega)] at this
      simpa using this
    obtain ⟨rows', hp2, hR2⟩ := All2.perm hperm hR
    have hrl : rows'.length = len := by rw [hp2.length_eq, hlen]
    -- the block behind the sort
    obtain ⟨W, hW⟩ : ∃ W, W = sortWorldK enc k w gb o n d' os := ⟨_, rfl⟩
    rw [← hW]
    have hblk : ∀ b, b < w.heap.size → W.heap[b]? = (w.heap[b]?).map fun x => if b = gb then onCells (putCells id o (flatK enc k d')) x else x := by
      intro b hb
      rw [hW]
      simp only [sortWorldK, putRowK, putRow, grow, mapBlock, Sort.ahead]
      rw [Array.getElem?_append_left (by simp; exact hb), Array.getElem?_modify]
      by_cases hbg : gb = b
      · subst hbg; simp
      · rw [if_neg hbg]
        cases w.heap[b]? with
        | none => rfl
        | some x => simp [Ne.symm hbg]
    obtain ⟨vs', hvs'⟩ : ∃ vs', vs' = (putCells id o (flatK enc k d') ⟨vs⟩).toList := ⟨_, rfl⟩
    have hblk1 : W.heap[gb]? = some (.cells ⟨vs'⟩ T (0, 0)) := by
      rw [hblk gb hgb, hheap]; simp [onCells, hvs']
    have hvl : vs'.length = vs.length := by rw [hvs']; simp [putCells]
    have hvget : ∀ t, t < len * k → vs'[o + t]? = some (flatK enc k d')[t]! := by
      intro t ht
      rw [hvs']
      simp only [putCells, Array.toList_mapIdx]
      rw [List.getElem?_mapIdx]
      have hlt3 : o + t < vs.length := by omega
      simp only [List.getElem?_eq_getElem hlt3, Option.map_some]
      rw [size_flatK, hd', if_pos (by omega)]
      simp
    have hsize : w.heap.size ≤ W.heap.size := by
      rw [hW]; simp [sortWorldK, putRowK, putRow, grow, mapBlock, Sort.ahead]
    have hother : ∀ b, b < w.heap.size → b ≠ gb → W.heap[b]? = w.heap[b]? := by
      intro b hb hne
      rw [hblk b hb]
      cases w.heap[b]? with
      | none => rfl
      | some x => simp [hne]
    have hrow' : RowAt tt Pp e vs' o rows' := by
      intro i row hi
      have hil : i < rows'.length := (List.getElem?_eq_some_iff.1 hi).1
      have hrow_eq : row = rows'[i] := ((List.getElem?_eq_some_iff.1 hi).2).symm
      have hrel := hR2.get i (by simp; omega) hil
      rw [← hrow_eq] at hrel
      refine ⟨hrel.l2, ?_⟩
      intro j dd ck hj hck
      obtain ⟨v, hv, hrd⟩ := hrel.rd j dd ck hj hck
      refine ⟨v, ?_, hrd⟩
      have hjk : j < k := by rw [hkd]; exact (List.getElem?_eq_some_iff.1 hck).1
      have hin : (i + 1) * k ≤ len * k := Nat.mul_le_mul_right k (by omega)
      rw [Nat.add_mul, Nat.one_mul] at hin
      rw [← hkd, Nat.add_assoc, hvget (i * k + j) (by omega)]
      obtain ⟨x, hq, hx1, hx2⟩ := flat d' hd' (i * k + j) (by omega)
      have hdiv : (i * k + j) / k = i := by
        rw [Nat.mul_comm, Nat.mul_add_div (by omega), Nat.div_eq_of_lt hjk, Nat.add_zero]
      have hmod : (i * k + j) % k = j := by
        rw [Nat.mul_comm, Nat.mul_add_mod, Nat.mod_eq_of_lt hjk]
      rw [hx2, hmod]
      have hxi : x = d'.toList[i]'(by simp; omega) := by
        rw [hx1]; simp [hdiv]
      rw [hxi]
      have hjl : j < (enc (d'.toList[i]'(by simp; omega))).length := by rw [hk, ← hkd]; exact hjk
      rw [getElem!_pos _ j hjl]
      rw [List.getElem?_eq_getElem hjl] at hv
      exact hv
    have hsorted : ∀ i j (hi : i < rows'.length) (hj : j < rows'.length), i < j → ltD rows'[j] rows'[i] = false := by
      intro i j hi hj hij
      have := hs i j (Nat.zero_le _) hij (by omega)
      rw [getElem!_pos d' i (by omega), getElem!_pos d' j (by omega)] at this
      rw [← hlt Pp d'[j] d'[i] _ _ (by have := hR2.get j (by simp; omega) hj; simpa using this) (by have := hR2.get i (by simp; omega) hi; simpa using this)]
      exact this
    have hno := hno trivial
    refine ⟨_, E, Pp, [.row e (.list rows') true], _, rfl, .refl _, fun _ _ h => h, ?_, .tup [] [] .nil, h rows' hp2 hsorted, ?_, fun _ _ h => .inl h, ?_⟩
    · refine ⟨by rw [hEl]; rfl, ?_, ?_, ?_⟩
      · intro ad v hpv
        have hne := hno ad v hpv
        have hc := hw.pi ad v hpv
        have hlt4 : ad.block < w.heap.size := by
          rcases Nat.lt_or_ge ad.block w.heap.size with h' | h'
          · exact h'
          · simp only [World.cell?, Array.getElem?_eq_none h'] at hc; simp at hc
        simp only [World.cell?] at hc ⊢
        rw [hother _ hlt4 hne]; exact hc
      · intro i ob ho hl
        cases i with
        | succ i => simp at ho
        | zero =>
          simp at ho; subst ho
          refine ⟨_, hri, ?_⟩
          simp only [OR]
          refine ⟨vs', T, rows', hblk1, rfl, hrl, hcap, by rw [hvl]; exact hfit, hrow', fun _ => hno, by simp⟩
      · intro i j oi oj ri rj b hi hj _ _ _ _ _ _
        cases i <;> cases j <;> simp at hi hj ⊢
    · refine ⟨?_, ?_, ?_, hsize, ?_, ?_⟩
      · rw [hW]; rfl
      · rw [hW]; rfl
      · rw [hW]; rfl
      · rw [hW]; exact Nat.le_add_right _ _
      · intro b hb hown
        refine hother b hb fun hbg => hown ?_
        subst hbg
        exact ⟨0, _, _, rfl, rfl, hri, rfl⟩
    · intro i ob ri b ho hl hE' hb
      refine .inr ?_
      cases i with
      | succ i => simp at ho
      | zero =>
        rw [hri] at hE'; cases hE'
        exact ⟨0, _, _, rfl, rfl, hri, hb⟩

end

theorem grow_of_fr {own : Nat → Prop} {w w' : World} (h : Fr own w w') (hn : ∀ b, ¬ own b) : ∃ q os', w' = Go.Sort.grow (w.drewN q) os' := by
  refine ⟨w'.drawn - w.drawn, w'.heap.extract w.heap.size w'.heap.size, ?_⟩
  have hd := h.drawn
  have hh : w'.heap = w.heap ++ w'.heap.extract w.heap.size w'.heap.size := by
    apply Array.ext_getElem?
    intro i
    rcases Nat.lt_or_ge i w.heap.size with hi | hi
    · rw [Array.getElem?_append_left hi]; exact h.block i hi (hn i)
    · rw [Array.getElem?_append_right hi]
      simp only [Array.getElem?_extract]
      have := h.size
      split
      · congr 1; omega
      · rw [Array.getElem?_eq_none (by omega)]
  cases w' with
  | mk heap tape drawn os output =>
    simp only [Go.Sort.grow, World.drewN]
    congr 1
    · exact h.tape
    · simp at hd ⊢; omega
    · exact h.os
    · exact h.output

/-- a comparison's contract, for the library's sort -/
theorem cmp_calls {P : Program} {tt : TypeId → Option TI} {f : FuncId} {fn : Func} {c : Code} {args : List PV} {r : Int} (hf : Has P f fn c) (hfc : FC P tt f [] args fun v _ => v = .int .i64 r) {w : World} {vals : List Value} (hv : VRL tt [] (fun _ _ => False) vals args) :
    Calls P f ⟨vals⟩ w fun e w' => e = .returned (.int .i64 r) ∧ ∃ q os', w' = Go.Sort.grow (w.drewN q) os' := by
  rcases hfc [] (fun _ _ => False) w vals (WR.nil (fun _ _ h => h.elim)) hv with ⟨_, h⟩ | ⟨v, w', h, _⟩
  · refine h.mono ?_
    rintro e w' ⟨v, E', Pp', objs', pv, rfl, _, _, _, hvr, rfl, hfr, _⟩
    cases hvr
    exact ⟨rfl, grow_of_fr hfr (fun b h => own_nil h)⟩
  · rw [enter_run hf.f hf.b hf.name] at h; cases h
end Go.VC
end

section
/- The library's sort of strings. -/
set_option linter.unusedSimpArgs false
set_option linter.unusedVariables false
namespace Go.VC
theorem perm_map {α β : Type} {f : α → β} {l : List α} {r : List β} (h : r.Perm (l.map f)) : ∃ S : List α, S.Perm l ∧ r = S.map f := by
  have h0 : All2 (fun (b : β) (a : α) => b = f a) (l.map f) l := All2.of_get (by simp) fun i h1 h2 => by simp
  obtain ⟨S, h1, h2⟩ := All2.perm h h0
  refine ⟨S, h1, ?_⟩
  clear h h0 h1
  induction h2 with
  | nil => rfl
  | cons h t ih => rw [h, ih]; rfl
end Go.VC
namespace Go.Proofs
open Go.Shelf Go.RowKit Go.Lib Go.Sort
def encKS (x : List UInt8) : List Value := [encStr x]
def cfS (x y : List UInt8) : Int := if x < y then -1 else 1
theorem ltCfS (x y : List UInt8) : ltOf cfS x y = decide (x < y) := by
  unfold ltOf cfS
  by_cases h : x < y <;> simp [h]
theorem sort87 (blk off cap : Nat) (d : Array (List UInt8)) (w : World) (hH : HoldsK encKS 1 w blk off d) (hblk : blk < w.heap.size) (hsz : d.size < 4611686018427387904) :
    Calls Tryz.prog 87 #[.slice (some ⟨blk, off, none⟩) d.size cap] w fun e w' => e = .returned (.tuple #[]) ∧ ∃ d' n os, PermIn 0 d.size d d' ∧ SortedIn (ltOf cfS) 0 d.size d' ∧ w' = sortWorldK encKS 1 w blk off n d' os := by
  have h := Tryz.slices_Sort_string blk off cap d.toList w (by simpa using Go.VC.holds_one hH) hblk (by simpa using hsz)
  rw [Array.length_toList] at h
  refine h.mono ?_
  rintro e w' ⟨rfl, n, os, rfl⟩
  have hp := List.mergeSort_perm d.toList fun x y => decide (x ≤ y)
  have hs := List.pairwise_mergeSort (le := fun x y : List UInt8 => decide (x ≤ y)) (by intro a b c; simp; exact List.le_trans) (by intro a b; simp; exact List.le_total a b) d.toList
  obtain ⟨S, hS⟩ : ∃ S, S = d.toList.mergeSort fun x y => decide (x ≤ y) := ⟨_, rfl⟩
  rw [← hS] at hp hs ⊢
  have hl : S.length = d.size := by rw [hp.length_eq]; simp
  refine ⟨rfl, S.toArray, n, os, ⟨by simp [hl], ?_, ?_⟩, ?_, ?_⟩
  · intro i hi
    have hi : d.size ≤ i := by omega
    rw [getElem!_neg _ i (by simp; omega), getElem!_neg d i (by omega)]
  · rw [Array.extract_eq_self_of_le (by simp; omega), Array.extract_eq_self_of_le (by omega)]
    simpa using hp
  · intro i j _ hij hj
    rw [getElem!_pos _ i (by simp; omega), getElem!_pos _ j (by simp; omega), ltCfS]
    have := List.pairwise_iff_getElem.1 hs i j (by omega) (by omega) hij
    simp at this ⊢; exact this
  · unfold sortWorldK putRowK
    rw [Go.VC.putRow_one]; rfl
theorem sort87_none (p : Option Addr) (cap : Nat) (w : World) : Calls Tryz.prog 87 #[.slice p 0 cap] w fun e w' => e = .returned (.tuple #[]) ∧ w' = w := Tryz.slices_Sort_string_none p cap w
end Go.Proofs
namespace Go.VC.T07
open Go Go.VC Go.Proofs Go.Sort
theorem cks9 : cksOf tt 9 = [.str] := by kernel_rfl
theorem rd_str {Pp : Per} {v : Value} {d : D} (h : RD tt Pp .str v d) : ∃ b : ByteArray, v = .string b ∧ d = .str b.data.toList := by cases h; exact ⟨_, rfl, rfl⟩
def ltS1 (x y : List D) : Bool := slt (Std.asStr (x.getD 0 .nil)) (Std.asStr (y.getD 0 .nil))
theorem F87 {l : List S} {d : D} {K : PV → List Ob → Prop} (hd : d = encL encS l) (hn : l.length < 4294967296)
    (h : ∀ (m : List S) r, m.Perm l → m.Pairwise (fun a b => slt b a = false) → r = encL encS m → K (.tup []) [.row 9 r true]) : FC Tryz.prog tt 87 [.row 9 d true] [.row 9 0] K := by
  subst hd
  have rel1 : ∀ {Pp : Per} {us : List Value} {row : List D}, RelV tt Pp 9 us row → ∃ b : ByteArray, us = [.string b] ∧ row = [.str b.data.toList] := by
    intro Pp us row h
    obtain ⟨h1, h2, h3⟩ := h
    rw [cks9] at h1 h2 h3
    match us, row, h1, h2 with
    | [u0], [r0], _, _ =>
      obtain ⟨v0, e0, q0⟩ := h3 0 r0 _ rfl rfl
      simp at e0; subst e0
      obtain ⟨b, rfl, rfl⟩ := rd_str q0
      exact ⟨b, rfl, rfl⟩
  have enc1 : ∀ {x : S} {b : ByteArray}, encKS x = [.string b] → x = b.data.toList := by
    intro x b h
    simp only [encKS, encStr, List.cons.injEq, Value.string.injEq, and_true] at h
    rw [← h]
  refine sort_fc (e := 9) encKS cfS ltS1 [] [] ex_nil (fun x => by rw [cks9]; rfl) ?_ ?_ (enters_of Tryz.func87 (by kernel_rfl) rfl) (l.map encS) (by simp; omega) ?_ ?_ ?_
  · rw [cks9]; exact fun blk off cap d w => sort87 blk off cap d w
  · exact sort87_none
  · intro Pp us row hr hrel
    obtain ⟨b, rfl, _⟩ := rel1 hrel
    exact ⟨b.data.toList, by simp [encKS, encStr]⟩
  · intro Pp x y rx ry h1 h2
    obtain ⟨a, e1, rfl⟩ := rel1 h1
    obtain ⟨a', e2, rfl⟩ := rel1 h2
    rw [ltCfS, enc1 e1, enc1 e2, ← slt_eq]; rfl
  · intro rows' hp hs
    obtain ⟨m, h1, rfl⟩ := perm_map hp
    refine h m _ h1 ?_ rfl
    rw [List.pairwise_iff_getElem]
    intro i j hi hj hij
    have := hs i j (by simpa using hi) (by simpa using hj) hij
    simpa [ltS1, encS, Std_str] using this
end Go.VC.T07
end

section
/- Names drawn together in a set; the sorted keys. -/
set_option linter.unusedSimpArgs false
set_option linter.unusedVariables false
namespace Go.VC
/-- a key laid into a set -/
def addK (m : List (S × Bool)) (k : S) : List (S × Bool) := match m with
  | [] => [(k, true)]
  | x :: r => if k = x.1 then (k, true) :: r else x :: addK r k
theorem Std_addK {m : List (S × Bool)} {k : S} : Std.mset (encL encKB m) (.str k) [.bool true] = encL encKB (addK m k) := by
  simp only [Std, std, encL, rowsD]
  congr 1
  induction m with
  | nil => rfl
  | cons x m ih =>
    have hk : hasKey (.str k) (encKB x) = (k == x.1) := rfl
    simp only [List.map_cons, setKey, addK]
    rw [hk]
    by_cases h : k = x.1
    · rw [if_pos (by simp [h]), if_pos h]; rfl
    · rw [if_neg (by simp [h]), if_neg h, List.map_cons, ← ih]
def addKs (m : List (S × Bool)) (l : List S) : List (S × Bool) := l.foldl addK m
theorem addKs_snoc {m : List (S × Bool)} {l : List S} {k : S} : addKs m (l ++ [k]) = addK (addKs m l) k := by simp [addKs]
theorem addKs_app {m : List (S × Bool)} {l k : List S} : addKs m (l ++ k) = addKs (addKs m l) k := by simp [addKs]
theorem addK_keys {m : List (S × Bool)} {k s : S} : s ∈ (addK m k).map (·.1) ↔ s = k ∨ s ∈ m.map (·.1) := by
  induction m with
  | nil => simp [addK]
  | cons x m ih =>
    simp only [addK]
    split
    · rename_i h; simp only [List.map_cons, List.mem_cons, ← h]; constructor
      · rintro (h1 | h1); exact .inl h1; exact .inr (.inr h1)
      · rintro (h1 | h1 | h1); exact .inl h1; exact .inl h1; exact .inr h1
    · simp only [List.map_cons, List.mem_cons, ih]; constructor
      · rintro (h1 | h1 | h1); exact .inr (.inl h1); exact .inl h1; exact .inr (.inr h1)
      · rintro (h1 | h1 | h1); exact .inr (.inl h1); exact .inl h1; exact .inr (.inr h1)
theorem addK_nodup {m : List (S × Bool)} {k : S} (h : (m.map (·.1)).Nodup) : ((addK m k).map (·.1)).Nodup := by
  induction m with
  | nil => simp [addK]
  | cons x m ih =>
    rw [List.map_cons, List.nodup_cons] at h
    simp only [addK]
    split
    · rename_i hk; rw [List.map_cons, List.nodup_cons]; subst hk; exact h
    · rename_i hk
      rw [List.map_cons, List.nodup_cons, addK_keys]
      exact ⟨fun h1 => by rcases h1 with h1 | h1; exact hk h1.symm; exact h.1 h1, ih h.2⟩
theorem addK_len {m : List (S × Bool)} {k : S} : (addK m k).length ≤ m.length + 1 := by
  induction m with
  | nil => simp [addK]
  | cons x m ih => simp only [addK]; split <;> simp; omega
theorem addKs_keys {l : List S} : ∀ {m : List (S × Bool)} {s : S}, s ∈ (addKs m l).map (·.1) ↔ s ∈ l ∨ s ∈ m.map (·.1) := by
  induction l with
  | nil => intro m s; simp [addKs]
  | cons x l ih =>
    intro m s
    show s ∈ (addKs (addK m x) l).map (·.1) ↔ _
    rw [ih, addK_keys, List.mem_cons]
    constructor
    · rintro (h | h | h); exact .inl (.inr h); exact .inl (.inl h); exact .inr h
    · rintro ((h | h) | h); exact .inr (.inl h); exact .inl h; exact .inr (.inr h)
theorem addKs_nodup {l : List S} : ∀ {m : List (S × Bool)}, (m.map (·.1)).Nodup → ((addKs m l).map (·.1)).Nodup := by
  induction l with
  | nil => intro m h; exact h
  | cons x l ih => intro m h; exact ih (addK_nodup h)
theorem addKs_len {l : List S} : ∀ {m : List (S × Bool)}, (addKs m l).length ≤ m.length + l.length := by
  induction l with
  | nil => intro m; simp [addKs]
  | cons x l ih =>
    intro m
    have h1 := ih (m := addK m x)
    have h2 := addK_len (m := m) (k := x)
    show (addKs (addK m x) l).length ≤ _
    simp; omega
/-- sorted, nothing twice -/
def SrtS (l : List S) : Prop := l.Pairwise fun a b => slt a b = true
theorem SrtS_of {l : List S} (h : l.Pairwise fun a b => slt b a = false) (hn : l.Nodup) : SrtS l := by
  induction l with
  | nil => exact List.Pairwise.nil
  | cons x l ih =>
    rw [List.pairwise_cons] at h
    rw [List.nodup_cons] at hn
    refine List.pairwise_cons.2 ⟨fun y hy => ?_, ih h.2 hn.2⟩
    cases hb : slt x y with
    | true => rfl
    | false => exact absurd (slt_tri hb (h.1 y hy)) fun e => hn.1 (e ▸ hy)
theorem SrtS_ext : ∀ {l m : List S}, SrtS l → SrtS m → (∀ s, s ∈ l ↔ s ∈ m) → l = m
  | [], [], _, _, _ => rfl
  | [], y :: m, _, _, h => by have := (h y).2 (by simp); simp at this
  | x :: l, [], _, _, h => by have := (h x).1 (by simp); simp at this
  | x :: l, y :: m, hl, hm, h => by
    obtain ⟨h1, h2⟩ := List.pairwise_cons.1 hl
    obtain ⟨h3, h4⟩ := List.pairwise_cons.1 hm
    have hxy : x = y := by
      rcases List.mem_cons.1 ((h x).1 (by simp)) with e | e
      · exact e
      · rcases List.mem_cons.1 ((h y).2 (by simp)) with e2 | e2
        · exact e2.symm
        · have a1 := h3 x e
          have a2 := h1 y e2
          rw [slt_asymm a1] at a2; cases a2
    subst hxy
    congr 1
    refine SrtS_ext h2 h4 fun s => ⟨fun hs => ?_, fun hs => ?_⟩
    · rcases List.mem_cons.1 ((h s).1 (by simp [hs])) with e | e
      · subst e; have := h1 s hs; rw [slt_irrefl] at this; cases this
      · exact e
    · rcases List.mem_cons.1 ((h s).2 (by simp [hs])) with e | e
      · subst e; have := h3 s hs; rw [slt_irrefl] at this; cases this
      · exact e
end Go.VC
namespace Go.VC.T07
open Go Go.VC Go.Proofs

set_option maxRecDepth 100000 in
theorem F50 {m : List (S × Bool)} {d : D} {K : PV → List Ob → Prop} (hd : d = encL encKB m) (hm : m.length < 4294967296) (hn : (m.map (·.1)).Nodup)
    (h : ∀ (l : List S) (r : D), r = encL encS l → SrtS l → (∀ s, s ∈ l ↔ s ∈ m.map (·.1)) → K (.row 9 2) [.box [.mp 1], .map .str 4 d, .row 9 r true]) :
    FC Tryz.prog tt 50 [.box [.mp 1], .map .str 4 d] [.clos 88 [.box 0 0]] K := by
  refine FC.enterLive (G := g50) tt_ok mixed ⟨Tryz.func50, by rfl, rfl⟩ rfl rfl rfl ?_
  intro A C L X
  cbv
  refine X.call (F86 hd hm fun l r hr hp => ?_)
  cbv
  refine X.call (F87 hr (by rw [hp.length_eq]; simpa using hm) fun l' r' hp' hs hr' => ?_)
  cbv
  have hp2 := hp'.trans hp
  exact h l' r' hr' (SrtS_of hs (hp2.nodup_iff.2 hn)) fun s => hp2.mem_iff

set_option maxRecDepth 100000 in
theorem F49 {m : List (S × Bool)} {d : D} {s : S} {K : PV → List Ob → Prop} (hd : d = encL encKB m)
    (h : ∀ r, r = encL encKB (addK m s) → K (.tup []) [.box [.mp 1], .map .str 4 r]) :
    FC Tryz.prog tt 49 [.box [.mp 1], .map .str 4 d] [.str s, .box 0 0] K := by
  refine FC.enterLive (G := g49) tt_ok mixed ⟨Tryz.func49, by rfl, rfl⟩ rfl rfl rfl ?_
  intro A C L X
  have q := h (A.mset d (.str s) [.bool true]) (by rw [X.a, hd, Std_addK])
  cbv
  exact q
end Go.VC.T07
end

section
/- Copies of lists. -/
set_option linter.unusedSimpArgs false
set_option linter.unusedVariables false
namespace Go.VC.T07
open Go Go.VC Go.Proofs

set_option maxRecDepth 100000 in
theorem F97 {α : Type} {f : α → List D} {l : List α} {d : D} {K : PV → List Ob → Prop} (hd : d = encL f l) (hl : l.length < 4294967296)
    (h : ∀ r, r = encL f l → K (.row 43 0) [.row 43 r true]) :
    FC Tryz.prog tt 97 [] [.lst 43 d] K := by
  refine FC.enterOwn (G := g97) tt_ok mixed ⟨Tryz.func97, by rfl, rfl⟩ rfl rfl rfl ?_
  intro A C L X
  obtain ⟨n_d, hn_d⟩ : ∃ n, n = (l).length := ⟨_, rfl⟩
  have hlen_d : Std.len d = Int.ofNat n_d := by rw [hd, Std_len, hn_d]; rfl
  cbv
  intro b hb
  cbv
  repeat' (first | apply And.intro | exact fun (_ : False → False) => by kernel_rfl | (intro h2; cbv) | apply Or.inl)
  · refine h _ ?_
    obtain rfl := X.a
    have hb := hb h2
    rw [Std_same, hlen_d, hn_d] at hb
    have : l = [] := List.eq_nil_of_length_eq_zero (by simp only [Int.ofNat_eq_natCast] at hb; omega)
    rw [this]; rfl
  · obtain rfl := X.a; simp only [SD, bNot, hlen_d]; omega
  · refine h _ ?_
    obtain rfl := X.a
    rw [hd]
    exact Std_app (l := [])

set_option maxRecDepth 100000 in
theorem F98 {α : Type} {f : α → List D} {l : List α} {d : D} {K : PV → List Ob → Prop} (hd : d = encL f l) (hl : l.length < 4294967296)
    (h : ∀ r, r = encL f l → K (.row 105 0) [.row 105 r true]) :
    FC Tryz.prog tt 98 [] [.lst 105 d] K := by
  refine FC.enterOwn (G := g98) tt_ok mixed ⟨Tryz.func98, by rfl, rfl⟩ rfl rfl rfl ?_
  intro A C L X
  obtain ⟨n_d, hn_d⟩ : ∃ n, n = (l).length := ⟨_, rfl⟩
  have hlen_d : Std.len d = Int.ofNat n_d := by rw [hd, Std_len, hn_d]; rfl
  cbv
  intro b hb
  cbv
  repeat' (first | apply And.intro | exact fun (_ : False → False) => by kernel_rfl | (intro h2; cbv) | apply Or.inl)
  · refine h _ ?_
    obtain rfl := X.a
    have hb := hb h2
    rw [Std_same, hlen_d, hn_d] at hb
    have : l = [] := List.eq_nil_of_length_eq_zero (by simp only [Int.ofNat_eq_natCast] at hb; omega)
    rw [this]; rfl
  · obtain rfl := X.a; simp only [SD, bNot, hlen_d]; omega
  · refine h _ ?_
    obtain rfl := X.a
    rw [hd]
    exact Std_app (l := [])

set_option maxRecDepth 100000 in
theorem F129 {α : Type} {f : α → List D} {l : List α} {d : D} {K : PV → List Ob → Prop} (hd : d = encL f l) (hl : l.length < 4294967296)
    (h : ∀ r, r = encL f l → K (.row 62 0) [.row 62 r true]) :
    FC Tryz.prog tt 129 [] [.lst 62 d] K := by
  refine FC.enterOwn (G := g129) tt_ok mixed ⟨Tryz.func129, by rfl, rfl⟩ rfl rfl rfl ?_
  intro A C L X
  obtain ⟨n_d, hn_d⟩ : ∃ n, n = (l).length := ⟨_, rfl⟩
  have hlen_d : Std.len d = Int.ofNat n_d := by rw [hd, Std_len, hn_d]; rfl
  cbv
  intro b hb
  cbv
  repeat' (first | apply And.intro | exact fun (_ : False → False) => by kernel_rfl | (intro h2; cbv) | apply Or.inl)
  · refine h _ ?_
    obtain rfl := X.a
    have hb := hb h2
    rw [Std_same, hlen_d, hn_d] at hb
    have : l = [] := List.eq_nil_of_length_eq_zero (by simp only [Int.ofNat_eq_natCast] at hb; omega)
    rw [this]; rfl
  · obtain rfl := X.a; simp only [SD, bNot, hlen_d]; omega
  · refine h _ ?_
    obtain rfl := X.a
    rw [hd]
    exact Std_app (l := [])

set_option maxRecDepth 100000 in
theorem F74 {α : Type} {f : α → List D} {l : List α} {d : D} {K : PV → List Ob → Prop} (hd : d = encL f l) (hl : l.length < 4294967296)
    (h : ∀ r, r = encL f l → K (.row 58 0) [.row 58 r true]) :
    FC Tryz.prog tt 74 [] [.lst 58 d] K := by
  refine FC.enterOwn (G := g74) tt_ok mixed ⟨Tryz.func74, by rfl, rfl⟩ rfl rfl rfl ?_
  intro A C L X
  obtain ⟨n_d, hn_d⟩ : ∃ n, n = (l).length := ⟨_, rfl⟩
  have hlen_d : Std.len d = Int.ofNat n_d := by rw [hd, Std_len, hn_d]; rfl
  cbv
  intro b hb
  cbv
  repeat' (first | apply And.intro | exact fun (_ : False → False) => by kernel_rfl | (intro h2; cbv) | apply Or.inl)
  · refine h _ ?_
    obtain rfl := X.a
    have hb := hb h2
    rw [Std_same, hlen_d, hn_d] at hb
    have : l = [] := List.eq_nil_of_length_eq_zero (by simp only [Int.ofNat_eq_natCast] at hb; omega)
    rw [this]; rfl
  · obtain rfl := X.a; simp only [SD, bNot, hlen_d]; omega
  · refine h _ ?_
    obtain rfl := X.a
    rw [hd]
    exact Std_app (l := [])

set_option maxRecDepth 100000 in
theorem F75 {α : Type} {f : α → List D} {l : List α} {d : D} {K : PV → List Ob → Prop} (hd : d = encL f l) (hl : l.length < 4294967296)
    (h : ∀ r, r = encL f l → K (.row 76 0) [.row 76 r true]) :
    FC Tryz.prog tt 75 [] [.lst 76 d] K := by
  refine FC.enterOwn (G := g75) tt_ok mixed ⟨Tryz.func75, by rfl, rfl⟩ rfl rfl rfl ?_
  intro A C L X
  obtain ⟨n_d, hn_d⟩ : ∃ n, n = (l).length := ⟨_, rfl⟩
  have hlen_d : Std.len d = Int.ofNat n_d := by rw [hd, Std_len, hn_d]; rfl
  cbv
  intro b hb
  cbv
  repeat' (first | apply And.intro | exact fun (_ : False → False) => by kernel_rfl | (intro h2; cbv) | apply Or.inl)
  · refine h _ ?_
    obtain rfl := X.a
    have hb := hb h2
    rw [Std_same, hlen_d, hn_d] at hb
    have : l = [] := List.eq_nil_of_length_eq_zero (by simp only [Int.ofNat_eq_natCast] at hb; omega)
    rw [this]; rfl
  · obtain rfl := X.a; simp only [SD, bNot, hlen_d]; omega
  · refine h _ ?_
    obtain rfl := X.a
    rw [hd]
    exact Std_app (l := [])

set_option maxRecDepth 100000 in
theorem F76 {α : Type} {f : α → List D} {l : List α} {d : D} {K : PV → List Ob → Prop} (hd : d = encL f l) (hl : l.length < 4294967296)
    (h : ∀ r, r = encL f l → K (.row 72 0) [.row 72 r true]) :
    FC Tryz.prog tt 76 [] [.lst 72 d] K := by
  refine FC.enterOwn (G := g76) tt_ok mixed ⟨Tryz.func76, by rfl, rfl⟩ rfl rfl rfl ?_
  intro A C L X
  obtain ⟨n_d, hn_d⟩ : ∃ n, n = (l).length := ⟨_, rfl⟩
  have hlen_d : Std.len d = Int.ofNat n_d := by rw [hd, Std_len, hn_d]; rfl
  cbv
  intro b hb
  cbv
  repeat' (first | apply And.intro | exact fun (_ : False → False) => by kernel_rfl | (intro h2; cbv) | apply Or.inl)
  · refine h _ ?_
    obtain rfl := X.a
    have hb := hb h2
    rw [Std_same, hlen_d, hn_d] at hb
    have : l = [] := List.eq_nil_of_length_eq_zero (by simp only [Int.ofNat_eq_natCast] at hb; omega)
    rw [this]; rfl
  · obtain rfl := X.a; simp only [SD, bNot, hlen_d]; omega
  · refine h _ ?_
    obtain rfl := X.a
    rw [hd]
    exact Std_app (l := [])

set_option maxRecDepth 100000 in
theorem F77 {α : Type} {f : α → List D} {l : List α} {d : D} {K : PV → List Ob → Prop} (hd : d = encL f l) (hl : l.length < 4294967296)
    (h : ∀ r, r = encL f l → K (.row 87 0) [.row 87 r true]) :
    FC Tryz.prog tt 77 [] [.lst 87 d] K := by
  refine FC.enterOwn (G := g77) tt_ok mixed ⟨Tryz.func77, by rfl, rfl⟩ rfl rfl rfl ?_
  intro A C L X
  obtain ⟨n_d, hn_d⟩ : ∃ n, n = (l).length := ⟨_, rfl⟩
  have hlen_d : Std.len d = Int.ofNat n_d := by rw [hd, Std_len, hn_d]; rfl
  cbv
  intro b hb
  cbv
  repeat' (first | apply And.intro | exact fun (_ : False → False) => by kernel_rfl | (intro h2; cbv) | apply Or.inl)
  · refine h _ ?_
    obtain rfl := X.a
    have hb := hb h2
    rw [Std_same, hlen_d, hn_d] at hb
    have : l = [] := List.eq_nil_of_length_eq_zero (by simp only [Int.ofNat_eq_natCast] at hb; omega)
    rw [this]; rfl
  · obtain rfl := X.a; simp only [SD, bNot, hlen_d]; omega
  · refine h _ ?_
    obtain rfl := X.a
    rw [hd]
    exact Std_app (l := [])
end Go.VC.T07
end

section
/- Substitution. -/
set_option linter.unusedSimpArgs false
set_option linter.unusedVariables false
namespace Go.VC
def idxS (l : List S) (s : S) : Int := idxF (fun x => x == s) l
mutual
def Ty.sub (ns : List S) (ts : List Ty) : Ty → Ty
  | .mk k m n ar fl => if k = 9 ∧ 0 ≤ idxS ns n ∧ idxS ns n < ts.length then ts.getD (idxS ns n).toNat (.mk k m n ar fl) else .mk k m n (Ty.subs ns ts ar) (Ty.subf ns ts fl)
def Fe.sub (ns : List S) (ts : List Ty) : Fe → Fe | .mk s t b => .mk s (Ty.sub ns ts t) b
def Ty.subs (ns : List S) (ts : List Ty) : List Ty → List Ty | [] => [] | t :: l => Ty.sub ns ts t :: Ty.subs ns ts l
def Ty.subf (ns : List S) (ts : List Ty) : List Fe → List Fe | [] => [] | t :: l => Fe.sub ns ts t :: Ty.subf ns ts l
end
theorem subs_eq {ns : List S} {ts : List Ty} : ∀ l : List Ty, Ty.subs ns ts l = l.map (Ty.sub ns ts)
  | [] => by simp [Ty.subs]
  | t :: l => by simp [Ty.subs, subs_eq l]
theorem subf_eq {ns : List S} {ts : List Ty} : ∀ l : List Fe, Ty.subf ns ts l = l.map (Fe.sub ns ts)
  | [] => by simp [Ty.subf]
  | t :: l => by simp [Ty.subf, subf_eq l]
theorem sub_var {ns : List S} {ts : List Ty} {t : Ty} (hk : t.k = 9) {i : Nat} (hi : idxS ns t.n = (i : Int)) (h : i < ts.length) : t.sub ns ts = ts[i] := by
  cases t with
  | mk k m n ar fl =>
    simp only [Ty.k, Ty.n] at hk hi
    rw [Ty.sub, if_pos ⟨hk, by omega, by omega⟩, hi]
    simp [h]
theorem sub_node {ns : List S} {ts : List Ty} {t : Ty} (h : ¬ (t.k = 9 ∧ 0 ≤ idxS ns t.n ∧ idxS ns t.n < ts.length)) : t.sub ns ts = .mk t.k t.m t.n (t.ar.map (Ty.sub ns ts)) (t.fl.map (Fe.sub ns ts)) := by
  cases t with
  | mk k m n ar fl => rw [Ty.sub, if_neg (by exact h), subs_eq, subf_eq]; rfl
theorem sub_k {ns : List S} {ts : List Ty} {s : S} {t : Ty} {b : Bool} : Fe.sub ns ts (.mk s t b) = .mk s (t.sub ns ts) b := by rw [Fe.sub]
theorem Fe.sub_eq {ns : List S} {ts : List Ty} {f : Fe} : Fe.sub ns ts f = .mk f.s (f.t.sub ns ts) f.b := by cases f; rw [Fe.sub]; rfl
theorem sub_nil : ∀ t : Ty, t.sub [] [] = t := by
  refine Ty.parts fun t h1 h2 => ?_
  rw [sub_node (by simp)]
  refine Ty.ext rfl rfl rfl ?_ ?_
  · show t.ar.map _ = t.ar
    rw [List.map_congr_left h1, List.map_id']
  · show t.fl.map _ = t.fl
    rw [List.map_congr_left (g := fun f => f) fun f hf => ?_, List.map_id']
    rw [Fe.sub_eq, h2 f hf]; cases f; rfl
end Go.VC
namespace Go.VC.T07
open Go Go.VC Go.Proofs

set_option maxRecDepth 100000 in
theorem F96 {l : List S} {d : D} {s c : S} {K : PV → List Ob → Prop} (hd : d = encL encS l) (hl : l.length < 4294967296) (hs : c = s)
    (h : ∀ r : Int, r = idxS l s → K (.int .i64 r) []) :
    FC Tryz.prog tt 96 [] [.lst 9 d, .str c] K := by
  refine FC.enter (G := g96) tt_ok mixed ⟨Tryz.func96, by rfl, rfl⟩ rfl rfl rfl ?_
  intro A C L X
  obtain ⟨n_d, hn_d⟩ : ∃ n, n = (l).length := ⟨_, rfl⟩
  have hlen_d : Std.len d = Int.ofNat n_d := by rw [hd, Std_len, hn_d]; rfl
  cbv
  refine X.loop (fun (i : Nat) => ⟨[(8, .int .i64 i), (7, .int .i64 (A.len d)), (1, .str c), (0, .lst 9 d)], []⟩) (fun i => i ≤ n_d ∧ ∀ x ∈ l.take i, (x == s) = false) (fun i => n_d - i) 0 ⟨Nat.zero_le _, by simp⟩ ?_ ?_
  · (cbv; repeat' apply And.intro); all_goals (try (first | trivial | rfl | (rw [X.a]; rfl)))
  rintro i ⟨hi, ha⟩
  cbv
  refine ⟨fun h1 => ?_, fun h1 => ?_⟩
  · have h5 : i < l.length := by obtain rfl := X.a; simp only [hlen_d, SD, bNot] at h1; omega
    have k1 := strAt X.a hd h5
    have hid : A.idx (Int.ofNat i) (A.len d) := by rw [X.a, hd]; exact leaf_idx h5
    have hin : A.inr .i64 (A.add (Int.ofNat i) 1) := by rw [X.a]; exact leaf_inc h5 (by omega)
    cbv
    repeat' (first | apply And.intro | exact fun (_ : False → False) => by kernel_rfl | (intro h2; cbv) | apply Or.inl)

    any_goals exact hid
    any_goals exact hin
    · refine h i ?_
      have : l[i] = s := by rw [← hs, ← k1]; obtain rfl := X.a; simp only [SD, bNot] at h2; exact h2.symm
      exact (idxF_some h5 ha (by simp [this])).symm
    · have : ¬ l[i] = s := by rw [← hs, ← k1]; obtain rfl := X.a; simp only [SD, bNot] at h2; exact fun e => h2 e.symm
      refine ⟨i+1, ⟨by omega, ?_⟩, by omega, ?_⟩
      · rw [take_succ' h5]; intro x hx
        rcases List.mem_append.1 hx with hx | hx
        · exact ha x hx
        · simp at hx; subst hx; simpa using this
      (cbv; repeat' apply And.intro); all_goals (try (first | trivial | rfl | (rw [X.a]; rfl)))
  · have h5 : i = n_d := by obtain rfl := X.a; simp only [hlen_d, SD, bNot] at h1; omega
    subst h5
    cbv
    refine h (-1) ?_
    rw [hn_d, List.take_length] at ha
    exact (idxF_none ha).symm
end Go.VC.T07
end

section
/- Arguments that are full slices are slices. -/
namespace Go.VC
open Go
def thin : Nat → PV → PV
  | 0, p => p
  | n+1, p => match p with
    | .lsf e d => .lst e d
    | .agg cs => .agg (mapL (thin n) cs)
    | .bl b => .bool b
    | p => p
def thinL (l : List PV) : List PV := mapL (thin 3) l
theorem VRL.mapL {tt E Pp} {f : PV → PV} (hf : ∀ v p, VR tt E Pp v p → VR tt E Pp v (f p)) : ∀ {vs ps}, VRL tt E Pp vs ps → VRL tt E Pp vs (mapL f ps)
  | _, _, .nil => .nil
  | _, _, .cons v p vs ps h t => .cons _ _ _ _ (hf _ _ h) (VRL.mapL hf t)
theorem VR.thin {tt E Pp} : ∀ (n : Nat) {v p}, VR tt E Pp v p → VR tt E Pp v (thin n p)
  | 0, _, _, h => h
  | n+1, v, p, h => by
    match p, h with
    | .lsf e d, h => cases h with | lsf e a n d h => exact .lst _ _ _ h
    | .agg cs, h => cases h with | agg vs cs h => exact .agg _ _ (VRL.mapL (fun _ _ => VR.thin n) h)
    | .bl b, h => cases h; exact .bool b
    | .undef, h | .int _ _, h | .bool _, h | .str _, h | .lst _ _, h | .tup _, h | .box _ _, h | .row _ _, h | .rptr _ _ _ _, h | .eptr _ _ _ _, h | .pptr _ _, h | .dptr _ _, h | .dpp _ _ _, h | .clos _ _, h | .nilp, h | .nilm, h | .nilf, h | .mp _, h | .it _, h | .yld _, h => exact h
theorem FC.thin {P : Program} {tt : TypeId → Option TI} {f : FuncId} {objs : List Ob} {args args' : List PV} {K : PV → List Ob → Prop} (ha : thinL args = args') (h : FC P tt f objs args' K) : FC P tt f objs args K := by
  subst ha
  exact fun E Pp w vals hw hv => h E Pp w vals hw (VRL.mapL (fun _ _ => VR.thin 3) hv)
end Go.VC
end

section
set_option linter.unusedSimpArgs false
set_option linter.unusedVariables false
namespace Go.VC
theorem mixAt {α : Type} (f : α → α) {l : List α} {j : Nat} (h : j < l.length) (h' : j < ((l.take j).map f ++ l.drop j).length) : ((l.take j).map f ++ l.drop j)[j] = l[j] := by
  rw [List.getElem_append_right (by simp; omega)]
  simp [Nat.min_eq_left (Nat.le_of_lt h)]
theorem mixSet {α : Type} (f : α → α) {l : List α} {j : Nat} (h : j < l.length) : ((l.take j).map f ++ l.drop j).set j (f l[j]) = (l.take (j+1)).map f ++ l.drop (j+1) := by
  rw [take_succ' h, List.set_append, if_neg (by simp; omega), List.drop_eq_getElem_cons h]
  have : j - ((l.take j).map f).length = 0 := by simp; omega
  rw [this]; simp only [List.set_cons_zero, List.map_append, List.map_cons, List.map_nil, List.append_assoc, List.cons_append, List.nil_append]
end Go.VC
namespace Go.VC.T07
open Go Go.VC Go.Proofs
set_option maxRecDepth 100000 in
set_option maxHeartbeats 2000000 in
theorem F58g {ns : List S} {ts : List Ty} {dn dt : D} (hn : dn = encL encS ns) (hts : dt = encL encTy ts) (hl1 : ns.length < 4294967296) (hl2 : ts.length < 4294967296)
    (hc : ∀ j (h : j < ts.length) c0 c1 c2 c3 c4 (K : PV → List Ob → Prop), tyIs ts[j] c0 c1 c2 c3 c4 → (∀ e0 e1 e2 e3 e4, tyIs ts[j] e0 e1 e2 e3 e4 → K (tyPV e0 e1 e2 e3 e4) []) → FC Tryz.prog tt 58 [] [tyPV c0 c1 c2 c3 c4, .lst 9 (.list []), .lst 43 (.list [])] K) :
    ∀ (t : Ty), Ty.le 4294967295 t → ∀ {c0 : Int} {c1 c2 : S} {c3 c4 : D} {K : PV → List Ob → Prop}, tyIs t c0 c1 c2 c3 c4 → (∀ e0 e1 e2 e3 e4, tyIs (t.sub ns ts) e0 e1 e2 e3 e4 → K (tyPV e0 e1 e2 e3 e4) []) → FC Tryz.prog tt 58 [] [tyPV c0 c1 c2 c3 c4, .lst 9 dn, .lst 43 dt] K := by
  refine Ty.parts fun t iha ihf => ?_
  intro hle c0 c1 c2 c3 c4 K ht h
  obtain ⟨t0, t1, t2, hc3, hc4⟩ := ht
  have hla := tyLe_ar hle
  have hlf := tyLe_fl hle
  refine FC.enter (G := g58) tt_ok mixed ⟨Tryz.func58, by rfl, rfl⟩ rfl rfl rfl ?_
  intro A C L X
  obtain ⟨n_dn, hn_dn⟩ : ∃ n, n = (ns).length := ⟨_, rfl⟩
  have hlen_dn : Std.len dn = Int.ofNat n_dn := by rw [hn, Std_len, hn_dn]; rfl
  obtain ⟨n_dt, hn_dt⟩ : ∃ n, n = (ts).length := ⟨_, rfl⟩
  have hlen_dt : Std.len dt = Int.ofNat n_dt := by rw [hts, Std_len, hn_dt]; rfl
  obtain ⟨n_c3, hn_c3⟩ : ∃ n, n = (t.ar).length := ⟨_, rfl⟩
  have hlen_c3 : Std.len c3 = Int.ofNat n_c3 := by rw [hc3, Std_len, hn_c3]; rfl
  obtain ⟨n_c4, hn_c4⟩ : ∃ n, n = (t.fl).length := ⟨_, rfl⟩
  have hlen_c4 : Std.len c4 = Int.ofNat n_c4 := by rw [hc4, Std_len, hn_c4]; rfl
  cbv
  refine X.call (F96 hn hl1 t2 fun i hi => ?_)
  cbv
  repeat' (first | apply And.intro | exact fun (_ : False → False) => by kernel_rfl | (intro h2; cbv) | apply Or.inl)
  rotate_left 2
  iterate 3
    · have hno : ¬ (t.k = 9 ∧ 0 ≤ idxS ns t.n ∧ idxS ns t.n < ts.length) := by
        rw [← t0, ← hi]
        obtain rfl := X.a
        simp only [hlen_dt, SD, bNot] at *
        omega
      refine X.cut (fun (z : D × D) => ⟨[(2, .lst 43 dt), (1, .lst 9 dn), (3, .box 0 0), (6, .box 1 0)], [.box [.int .i64 c0, .str c1, .str c2, .row 43 2, .row 105 3], .box [.undef, .undef, .undef, .undef, .undef], .row 43 z.1 true, .row 105 z.2 true]⟩) (fun z => z.1 = encL encTy t.ar ∧ z.2 = encL encFd t.fl) ?_ ?_
      · cbv
        repeat' (first | apply And.intro | exact fun (_ : False → False) => by kernel_rfl | (intro h2; cbv) | apply Or.inl | (refine X.call (F97 hc3 (by omega) fun r1 hr1 => ?_); cbv) | (refine X.call (F98 hc4 (by omega) fun r2 hr2 => ?_); cbv))
        all_goals (refine ⟨(r1, r2), ⟨hr1, hr2⟩, [0, 1, 2, 3], rfl, ?_⟩; (cbv; repeat' apply And.intro); all_goals (try (first | trivial | rfl | (rw [X.a]; rfl))))
      · rintro ⟨z1, z2⟩ ⟨hz1, hz2⟩
        simp only at hz1 hz2
        obtain ⟨n_z1, hn_z1⟩ : ∃ n, n = (t.ar).length := ⟨_, rfl⟩
        have hlen_z1 : Std.len z1 = Int.ofNat n_z1 := by rw [hz1, Std_len, hn_z1]; rfl
        obtain ⟨n_z2, hn_z2⟩ : ∃ n, n = (t.fl).length := ⟨_, rfl⟩
        have hlen_z2 : Std.len z2 = Int.ofNat n_z2 := by rw [hz2, Std_len, hn_z2]; rfl
        cbv
        refine X.loopP (fun (x : Nat × D) => ⟨[(45, .int .i64 x.1), (44, .int .i64 (A.len z1)), (43, .row 43 2), (2, .lst 43 dt), (1, .lst 9 dn), (3, .box 0 0), (6, .box 1 0)], [.box [.int .i64 c0, .str c1, .str c2, .row 43 2, .row 105 3], .box [.undef, .undef, .undef, .undef, .undef], .row 43 x.2 true, .row 105 z2 true]⟩)
          (fun x => x.1 ≤ n_z1 ∧ x.2 = encL encTy ((t.ar.take x.1).map (Ty.sub ns ts) ++ t.ar.drop x.1)) (fun x => n_z1 - x.1) (0, z1) ⟨Nat.zero_le _, by simpa using hz1⟩ ?_ ?_
        · refine ⟨[0, 1, 2, 3], rfl, ?_⟩
          (cbv; repeat' apply And.intro); all_goals (try (first | trivial | rfl | (rw [X.a]; rfl)))
        rintro ⟨j, r⟩ ⟨hj, hr⟩
        simp only at hj hr
        cbv
        refine ⟨fun h1 => ?_, fun h1 => ?_⟩
        · have h5 : j < t.ar.length := by obtain rfl := X.a; simp only [hlen_z1, SD, bNot] at h1; omega
          have h6 : j < ((t.ar.take j).map (Ty.sub ns ts) ++ t.ar.drop j).length := by simp; omega
          have hq := mixAt (Ty.sub ns ts) h5 h6
          have k1 := tyAt X.a hr h6
          rw [hq] at k1
          have hid : A.idx (Int.ofNat j) (A.len r) := by rw [X.a, hr]; exact leaf_idx h6
          have hin : A.inr .i64 (A.add (Int.ofNat j) 1) := by rw [X.a]; exact leaf_inc h5 (by omega)
          cbv
          repeat' (first | apply And.intro | exact fun (_ : False → False) => by kernel_rfl | (intro h2; cbv) | apply Or.inl)
          any_goals exact hid
          refine X.call (iha _ (List.getElem_mem h5) (tyLe_a hle _ (List.getElem_mem h5)) k1 fun e0 e1 e2 e3 e4 he => ?_)
          obtain ⟨he0, he1, he2, he3, he4⟩ := he
          have q1 : A.setc r (Int.ofNat j) 0 [.int e0, .str e1, .str e2, e3, e4] = encL encTy ((t.ar.take (j+1)).map (Ty.sub ns ts) ++ t.ar.drop (j+1)) := by
            rw [X.a, hr]
            refine (Std_setc (a := Int.ofNat j) (f := encTy) (y := t.ar[j].sub ns ts) (i := j) rfl h6 ?_).trans ?_
            · rw [encTy_eq, encTy_eq, he0, he1, he2, he3, he4]; rfl
            · rw [mixSet _ h5]
          cbv
          repeat' (first | apply And.intro | exact fun (_ : False → False) => by kernel_rfl | (intro h2; cbv) | apply Or.inl)
          any_goals exact hid
          any_goals exact hin
          refine ⟨(j+1, A.setc r (Int.ofNat j) 0 [.int e0, .str e1, .str e2, e3, e4]), ⟨by simp only; omega, q1⟩, by simp only; omega, [0, 1, 2, 3], rfl, ?_⟩
          (cbv; repeat' apply And.intro); all_goals (try (first | trivial | rfl | (rw [X.a]; rfl)))
        have h5 : j = n_z1 := by obtain rfl := X.a; simp only [hlen_z1, SD, bNot] at h1; omega
        subst h5
        rw [hn_z1, List.take_length, List.drop_length, List.append_nil] at hr
        cbv
        refine X.loopP (fun (x : Nat × D) => ⟨[(62, .int .i64 x.1), (61, .int .i64 (A.len z2)), (60, .row 105 3), (2, .lst 43 dt), (1, .lst 9 dn), (3, .box 0 0), (6, .box 1 0)], [.box [.int .i64 c0, .str c1, .str c2, .row 43 2, .row 105 3], .box [.undef, .undef, .undef, .undef, .undef], .row 43 r true, .row 105 x.2 true]⟩)
          (fun x => x.1 ≤ n_z2 ∧ x.2 = encL encFd ((t.fl.take x.1).map (Fe.sub ns ts) ++ t.fl.drop x.1)) (fun x => n_z2 - x.1) (0, z2) ⟨Nat.zero_le _, by simpa using hz2⟩ ?_ ?_
        · refine ⟨[0, 1, 2, 3], rfl, ?_⟩
          (cbv; repeat' apply And.intro); all_goals (try (first | trivial | rfl | (rw [X.a]; rfl)))
        rintro ⟨j, r2⟩ ⟨hj, hr2⟩
        simp only at hj hr2
        cbv
        refine ⟨fun h1 => ?_, fun h1 => ?_⟩
        · have h5 : j < t.fl.length := by obtain rfl := X.a; simp only [hlen_z2, SD, bNot] at h1; omega
          have h6 : j < ((t.fl.take j).map (Fe.sub ns ts) ++ t.fl.drop j).length := by simp; omega
          have hq := mixAt (Fe.sub ns ts) h5 h6
          have k1 := fdTyAt X.a hr2 h6
          rw [hq] at k1
          have hid : A.idx (Int.ofNat j) (A.len r2) := by rw [X.a, hr2]; exact leaf_idx h6
          have hin : A.inr .i64 (A.add (Int.ofNat j) 1) := by rw [X.a]; exact leaf_inc h5 (by omega)
          cbv
          repeat' (first | apply And.intro | exact fun (_ : False → False) => by kernel_rfl | (intro h2; cbv) | apply Or.inl)
          any_goals exact hid
          refine X.call (ihf _ (List.getElem_mem h5) (tyLe_f hle _ (List.getElem_mem h5)) k1 fun e0 e1 e2 e3 e4 he => ?_)
          obtain ⟨he0, he1, he2, he3, he4⟩ := he
          have q1 : A.setc r2 (Int.ofNat j) 1 [.int e0, .str e1, .str e2, e3, e4] = encL encFd ((t.fl.take (j+1)).map (Fe.sub ns ts) ++ t.fl.drop (j+1)) := by
            rw [X.a, hr2]
            refine (Std_setc (a := Int.ofNat j) (f := encFd) (y := Fe.sub ns ts t.fl[j]) (i := j) rfl h6 ?_).trans ?_
            · rw [encFd_eq, encFd_eq, hq, Fe.sub_eq, he0, he1, he2, he3, he4]; rfl
            · rw [mixSet _ h5]
          cbv
          repeat' (first | apply And.intro | exact fun (_ : False → False) => by kernel_rfl | (intro h2; cbv) | apply Or.inl)
          any_goals exact hid
          any_goals exact hin
          refine ⟨(j+1, A.setc r2 (Int.ofNat j) 1 [.int e0, .str e1, .str e2, e3, e4]), ⟨by simp only; omega, q1⟩, by simp only; omega, [0, 1, 2, 3], rfl, ?_⟩
          (cbv; repeat' apply And.intro); all_goals (try (first | trivial | rfl | (rw [X.a]; rfl)))
        have h5 : j = n_z2 := by obtain rfl := X.a; simp only [hlen_z2, SD, bNot] at h1; omega
        subst h5
        rw [hn_z2, List.take_length, List.drop_length, List.append_nil] at hr2
        cbv
        refine h _ _ _ _ _ ?_
        rw [sub_node hno]
        exact ⟨t0, t1, t2, hr, hr2⟩

  · obtain ⟨j, hj⟩ : ∃ j : Nat, i = (j : Int) := ⟨i.toNat, by obtain rfl := X.a; simp only [hlen_dt, SD, bNot] at *; omega⟩
    subst hj
    have hlt : j < ts.length := by obtain rfl := X.a; simp only [hlen_dt, SD, bNot] at *; omega
    rw [X.a, hts]; exact leaf_idx hlt
  · obtain ⟨j, hj⟩ : ∃ j : Nat, i = Int.ofNat j := ⟨i.toNat, by obtain rfl := X.a; simp only [hlen_dt, SD, bNot] at *; omega⟩
    subst hj
    have hlt : j < ts.length := by obtain rfl := X.a; simp only [hlen_dt, SD, bNot] at *; omega
    have hk : t.k = 9 := by rw [← t0]; obtain rfl := X.a; simp only [hlen_dt, SD, bNot] at *; omega
    refine X.call (hc j hlt _ _ _ _ _ _ (tyAt X.a hts hlt) fun e0 e1 e2 e3 e4 he => ?_)
    cbv
    refine h _ _ _ _ _ ?_
    rw [sub_var hk hi.symm hlt]
    exact he

theorem F58c (t : Ty) (hle : Ty.le 4294967295 t) {c0 : Int} {c1 c2 : S} {c3 c4 : D} {K : PV → List Ob → Prop} (ht : tyIs t c0 c1 c2 c3 c4) (h : ∀ e0 e1 e2 e3 e4, tyIs t e0 e1 e2 e3 e4 → K (tyPV e0 e1 e2 e3 e4) []) : FC Tryz.prog tt 58 [] [tyPV c0 c1 c2 c3 c4, .lst 9 (.list []), .lst 43 (.list [])] K := by
  refine F58g (ns := []) (ts := []) rfl rfl (by simp) (by simp) (fun j h => absurd h (by simp)) t hle ht ?_
  rw [sub_nil]
  exact h
theorem F58 {ns : List S} {ts : List Ty} {dn dt : D} (hn : dn = encL encS ns) (hts : dt = encL encTy ts) (hl1 : ns.length < 4294967296) (hl2 : ts.length < 4294967296) (hlt : ∀ t ∈ ts, Ty.le 4294967295 t)
    (t : Ty) (hle : Ty.le 4294967295 t) {c0 : Int} {c1 c2 : S} {c3 c4 : D} {K : PV → List Ob → Prop} (ht : tyIs t c0 c1 c2 c3 c4) (h : ∀ e0 e1 e2 e3 e4, tyIs (t.sub ns ts) e0 e1 e2 e3 e4 → K (tyPV e0 e1 e2 e3 e4) []) : FC Tryz.prog tt 58 [] [tyPV c0 c1 c2 c3 c4, .lst 9 dn, .lst 43 dt] K :=
  F58g hn hts hl1 hl2 (fun j hj c0 c1 c2 c3 c4 K hc hK => F58c _ (hlt _ (List.getElem_mem hj)) hc hK) t hle ht h

set_option maxRecDepth 100000 in
theorem F104 (t : Ty) (hle : Ty.le 4294967295 t) {c0 : Int} {c1 c2 : S} {c3 c4 : D} {K : PV → List Ob → Prop} (ht : tyIs t c0 c1 c2 c3 c4) (h : ∀ e0 e1 e2 e3 e4, tyIs t e0 e1 e2 e3 e4 → K (tyPV e0 e1 e2 e3 e4) []) : FC Tryz.prog tt 104 [] [tyPV c0 c1 c2 c3 c4] K := by
  refine FC.enter (G := g104) tt_ok mixed ⟨Tryz.func104, by rfl, rfl⟩ rfl rfl rfl ?_
  intro A C L X
  cbv
  refine X.call (F58c t hle ht fun e0 e1 e2 e3 e4 he => ?_)
  cbv
  exact h _ _ _ _ _ he
end Go.VC.T07
end

section
/- Sizes of the data; entries as arguments. -/
namespace Go.VC
def Pm.ok (p : Pm) : Prop := Ty.le 4294967295 p.bound
structure TE.ok (x : TE) : Prop where
  np : x.params.length ≤ 4294967295
  p : ∀ p ∈ x.params, p.ok
  lo : Ty.le 4294967295 x.lower
  up : Ty.le 4294967295 x.upper
structure VE.ok (x : VE) : Prop where
  np : x.params.length ≤ 4294967295
  p : ∀ p ∈ x.params, p.ok
  ty : Ty.le 4294967295 x.ty
structure IF.ok (x : IF) : Prop where
  nt : x.types.length ≤ 4294967295
  nv : x.values.length ≤ 4294967295
  na : x.aliases.length ≤ 4294967295
  nd : x.deprecated.length ≤ 4294967295
  t : ∀ y ∈ x.types, y.ok
  v : ∀ y ∈ x.values, y.ok
abbrev pmPV (c0 : S) (c1 c2 : Int) (c3 c4 : S) (c5 c6 : D) : PV := .agg [.str c0, .int .i64 c1, .int .i64 c2, .str c3, .str c4, .lst 43 c5, .lst 105 c6]
abbrev tePV (c0 : S) (c1 : D) (c2 : Int) (c3 c4 : S) (c5 c6 : D) (c7 : Int) (c8 c9 : S) (c10 c11 : D) : PV := .agg [.str c0, .lst 62 c1, .int .i64 c2, .str c3, .str c4, .lst 43 c5, .lst 105 c6, .int .i64 c7, .str c8, .str c9, .lst 43 c10, .lst 105 c11]
abbrev vePV (c0 : S) (c1 : D) (c2 : Int) (c3 c4 : S) (c5 c6 : D) : PV := .agg [.str c0, .lst 62 c1, .int .i64 c2, .str c3, .str c4, .lst 43 c5, .lst 105 c6]
abbrev aePV (c0 c1 c2 : S) : PV := .agg [.str c0, .str c1, .str c2]
abbrev dePV (c0 c1 : S) : PV := .agg [.str c0, .str c1]
abbrev ifPV (c0 : S) (c1 c2 c3 c4 : D) : PV := .agg [.str c0, .lst 58 c1, .lst 76 c2, .lst 72 c3, .lst 87 c4]
def pmIs (x : Pm) (c0 : S) (c1 c2 : Int) (c3 c4 : S) (c5 c6 : D) : Prop := c0 = x.name ∧ c1 = x.var ∧ tyIs x.bound c2 c3 c4 c5 c6
def teIs (x : TE) (c0 : S) (c1 : D) (c2 : Int) (c3 c4 : S) (c5 c6 : D) (c7 : Int) (c8 c9 : S) (c10 c11 : D) : Prop := c0 = x.name ∧ c1 = encL encPm x.params ∧ tyIs x.lower c2 c3 c4 c5 c6 ∧ tyIs x.upper c7 c8 c9 c10 c11
def veIs (x : VE) (c0 : S) (c1 : D) (c2 : Int) (c3 c4 : S) (c5 c6 : D) : Prop := c0 = x.name ∧ c1 = encL encPm x.params ∧ tyIs x.ty c2 c3 c4 c5 c6
def aeIs (x : AE) (c0 c1 c2 : S) : Prop := c0 = x.name ∧ c1 = x.module ∧ c2 = x.target
def deIs (x : DE) (c0 c1 : S) : Prop := c0 = x.name ∧ c1 = x.note
def ifIs (x : IF) (c0 : S) (c1 c2 c3 c4 : D) : Prop := c0 = x.path ∧ c1 = encL encTE x.types ∧ c2 = encL encVE x.values ∧ c3 = encL encAE x.aliases ∧ c4 = encL encDE x.deprecated
section
variable {A : Alg} {d : D} {i : Nat}
theorem pmIsAt {l : List Pm} (ha : A = Std) (hd : d = encL encPm l) (h : i < l.length) : pmIs l[i] (A.asStr (A.cell d (Int.ofNat i) 0)) (A.asInt (A.cell d (Int.ofNat i) 1)) (A.asInt (A.cell d (Int.ofNat i) 2)) (A.asStr (A.cell d (Int.ofNat i) 3)) (A.asStr (A.cell d (Int.ofNat i) 4)) (A.cell d (Int.ofNat i) 5) (A.cell d (Int.ofNat i) 6) :=
  ⟨(pmAt ha hd h).1, (pmAt ha hd h).2, pmTyAt ha hd h⟩
theorem teIsAt {l : List TE} (ha : A = Std) (hd : d = encL encTE l) (h : i < l.length) : teIs l[i] (A.asStr (A.cell d (Int.ofNat i) 0)) (A.cell d (Int.ofNat i) 1) (A.asInt (A.cell d (Int.ofNat i) 2)) (A.asStr (A.cell d (Int.ofNat i) 3)) (A.asStr (A.cell d (Int.ofNat i) 4)) (A.cell d (Int.ofNat i) 5) (A.cell d (Int.ofNat i) 6) (A.asInt (A.cell d (Int.ofNat i) 7)) (A.asStr (A.cell d (Int.ofNat i) 8)) (A.asStr (A.cell d (Int.ofNat i) 9)) (A.cell d (Int.ofNat i) 10) (A.cell d (Int.ofNat i) 11) :=
  ⟨(teAt ha hd h).1, (teAt ha hd h).2, teLoAt ha hd h, teUpAt ha hd h⟩
theorem veIsAt {l : List VE} (ha : A = Std) (hd : d = encL encVE l) (h : i < l.length) : veIs l[i] (A.asStr (A.cell d (Int.ofNat i) 0)) (A.cell d (Int.ofNat i) 1) (A.asInt (A.cell d (Int.ofNat i) 2)) (A.asStr (A.cell d (Int.ofNat i) 3)) (A.asStr (A.cell d (Int.ofNat i) 4)) (A.cell d (Int.ofNat i) 5) (A.cell d (Int.ofNat i) 6) :=
  ⟨(veAt ha hd h).1, (veAt ha hd h).2, veTyAt ha hd h⟩
theorem aeIsAt {l : List AE} (ha : A = Std) (hd : d = encL encAE l) (h : i < l.length) : aeIs l[i] (A.asStr (A.cell d (Int.ofNat i) 0)) (A.asStr (A.cell d (Int.ofNat i) 1)) (A.asStr (A.cell d (Int.ofNat i) 2)) := aeAt ha hd h
theorem deIsAt {l : List DE} (ha : A = Std) (hd : d = encL encDE l) (h : i < l.length) : deIs l[i] (A.asStr (A.cell d (Int.ofNat i) 0)) (A.asStr (A.cell d (Int.ofNat i) 1)) := deAt ha hd h
theorem ifIsAt {l : List IF} (ha : A = Std) (hd : d = encL encIF l) (h : i < l.length) : ifIs l[i] (A.asStr (A.cell d (Int.ofNat i) 0)) (A.cell d (Int.ofNat i) 1) (A.cell d (Int.ofNat i) 2) (A.cell d (Int.ofNat i) 3) (A.cell d (Int.ofNat i) 4) := ifAt ha hd h
end
/-- a row written over by itself -/
theorem setc_self {A : Alg} {α : Type} {f : α → List D} {l : List α} {d : D} {i off : Nat} {vs : List D} (ha : A = Std) (hd : d = encL f l) (h : i < l.length) (hy : (f l[i]).take off ++ vs ++ (f l[i]).drop (off + vs.length) = f l[i]) : A.setc d (Int.ofNat i) off vs = d := by
  subst ha hd
  refine (Std_setc (a := Int.ofNat i) (f := f) (y := l[i]) (i := i) rfl h hy).trans ?_
  rw [List.set_getElem_self]
end Go.VC
end

section
/- environ.names, Exports. -/
set_option linter.unusedSimpArgs false
set_option linter.unusedVariables false
namespace Go.VC
/-- the names of an interface's entries -/
def namesL (x : IF) : List S := x.types.map (·.name) ++ x.values.map (·.name) ++ x.aliases.map (·.name)
theorem map_take {α β : Type} {f : α → β} {l : List α} {i : Nat} (h : i < l.length) : (l.take (i+1)).map f = (l.take i).map f ++ [f l[i]] := by rw [take_succ' h, List.map_append]; rfl
end Go.VC
namespace Go.VC.T07
open Go Go.VC Go.Proofs

set_option maxRecDepth 100000 in
set_option maxHeartbeats 2000000 in
theorem F48 {m : List (S × Bool)} {d : D} {x : IF} {c0 : S} {c1 c2 c3 c4 : D} {K : PV → List Ob → Prop} (hd : d = encL encKB m) (hx : ifIs x c0 c1 c2 c3 c4) (hl1 : x.types.length < 4294967296) (hl2 : x.values.length < 4294967296) (hl3 : x.aliases.length < 4294967296)
    (h : ∀ r, r = encL encKB (addKs m (namesL x)) → K (.tup []) [.box [.mp 1], .map .str 4 r]) :
    FC Tryz.prog tt 48 [.box [.mp 1], .map .str 4 d] [ifPV c0 c1 c2 c3 c4, .clos 49 [.box 0 0]] K := by
  obtain ⟨x0, hc1, hc2, hc3, hc4⟩ := hx
  refine FC.enterLive (G := g48) tt_ok mixed ⟨Tryz.func48, by rfl, rfl⟩ rfl rfl rfl ?_
  intro A C L X
  obtain ⟨n_c1, hn_c1⟩ : ∃ n, n = (x.types).length := ⟨_, rfl⟩
  have hlen_c1 : Std.len c1 = Int.ofNat n_c1 := by rw [hc1, Std_len, hn_c1]; rfl
  obtain ⟨n_c2, hn_c2⟩ : ∃ n, n = (x.values).length := ⟨_, rfl⟩
  have hlen_c2 : Std.len c2 = Int.ofNat n_c2 := by rw [hc2, Std_len, hn_c2]; rfl
  obtain ⟨n_c3, hn_c3⟩ : ∃ n, n = (x.aliases).length := ⟨_, rfl⟩
  have hlen_c3 : Std.len c3 = Int.ofNat n_c3 := by rw [hc3, Std_len, hn_c3]; rfl
  cbv
  refine X.loop (fun (i : Nat × D) => ⟨[(13, .int .i64 i.1), (12, .int .i64 (A.len c1)), (11, .lst 58 c1), (1, .clos 49 [.box 0 0]), (2, .box 2 0)], [.box [.mp 1], .map .str 4 i.2, .box [.str c0, .lst 58 c1, .lst 76 c2, .lst 72 c3, .lst 87 c4]]⟩)
    (fun i => i.1 ≤ n_c1 ∧ i.2 = encL encKB (addKs m ((x.types.take i.1).map (·.name)))) (fun i => n_c1 - i.1) (0, d) ⟨Nat.zero_le _, by simpa [addKs] using hd⟩ ?_ ?_
  · (cbv; repeat' apply And.intro); all_goals (try (first | trivial | rfl | (rw [X.a]; rfl)))
  rintro ⟨i, r⟩ ⟨hi, hr⟩
  simp only at hi hr
  cbv
  refine ⟨fun h1 => ?_, fun h1 => ?_⟩
  · have h5 : i < x.types.length := by obtain rfl := X.a; simp only [hlen_c1, SD, bNot] at h1; omega
    have k1 := (teAt X.a hc1 h5).1
    have hid : A.idx (Int.ofNat i) (A.len c1) := by rw [X.a, hc1]; exact leaf_idx h5
    have hin : A.inr .i64 (A.add (Int.ofNat i) 1) := by rw [X.a]; exact leaf_inc h5 (by omega)
    cbv
    refine ⟨hid, ?_⟩
    refine X.call (F49 hr fun r' hr' => ?_)
    cbv
    refine .inl ⟨hin, fun _ => ?_⟩
    refine ⟨(i+1, r'), ⟨by simp only; omega, ?_⟩, by simp only; omega, ?_⟩
    · simp only; rw [hr', k1, map_take h5, addKs_snoc]
    · (cbv; repeat' apply And.intro); all_goals (try (first | trivial | rfl | (rw [X.a]; rfl)))
  have h5 : i = n_c1 := by obtain rfl := X.a; simp only [hlen_c1, SD, bNot] at h1; omega
  subst h5
  rw [hn_c1, List.take_length] at hr
  clear hd
  clear h1 hi
  generalize hm1 : addKs m (x.types.map (·.name)) = m1 at hr
  cbv
  refine X.loop (fun (i : Nat × D) => ⟨[(25, .int .i64 i.1), (24, .int .i64 (A.len c2)), (23, .lst 76 c2), (1, .clos 49 [.box 0 0]), (2, .box 2 0)], [.box [.mp 1], .map .str 4 i.2, .box [.str c0, .lst 58 c1, .lst 76 c2, .lst 72 c3, .lst 87 c4]]⟩)
    (fun i => i.1 ≤ n_c2 ∧ i.2 = encL encKB (addKs m1 ((x.values.take i.1).map (·.name)))) (fun i => n_c2 - i.1) (0, r) ⟨Nat.zero_le _, by simpa [addKs] using hr⟩ ?_ ?_
  · (cbv; repeat' apply And.intro); all_goals (try (first | trivial | rfl | (rw [X.a]; rfl)))
  clear hr
  rintro ⟨i, r⟩ ⟨hi, hr⟩
  simp only at hi hr
  cbv
  refine ⟨fun h1 => ?_, fun h1 => ?_⟩
  · have h5 : i < x.values.length := by obtain rfl := X.a; simp only [hlen_c2, SD, bNot] at h1; omega
    have k1 := (veAt X.a hc2 h5).1
    have hid : A.idx (Int.ofNat i) (A.len c2) := by rw [X.a, hc2]; exact leaf_idx h5
    have hin : A.inr .i64 (A.add (Int.ofNat i) 1) := by rw [X.a]; exact leaf_inc h5 (by omega)
    cbv
    refine ⟨hid, ?_⟩
    refine X.call (F49 hr fun r' hr' => ?_)
    cbv
    refine .inl ⟨hin, fun _ => ?_⟩
    refine ⟨(i+1, r'), ⟨by simp only; omega, ?_⟩, by simp only; omega, ?_⟩
    · simp only; rw [hr', k1, map_take h5, addKs_snoc]
    · (cbv; repeat' apply And.intro); all_goals (try (first | trivial | rfl | (rw [X.a]; rfl)))
  have h5 : i = n_c2 := by obtain rfl := X.a; simp only [hlen_c2, SD, bNot] at h1; omega
  subst h5
  rw [hn_c2, List.take_length] at hr
  clear h1 hi
  generalize hm2 : addKs m1 (x.values.map (·.name)) = m2 at hr
  cbv
  refine X.loop (fun (i : Nat × D) => ⟨[(37, .int .i64 i.1), (36, .int .i64 (A.len c3)), (35, .lst 72 c3), (1, .clos 49 [.box 0 0]), (2, .box 2 0)], [.box [.mp 1], .map .str 4 i.2, .box [.str c0, .lst 58 c1, .lst 76 c2, .lst 72 c3, .lst 87 c4]]⟩)
    (fun i => i.1 ≤ n_c3 ∧ i.2 = encL encKB (addKs m2 ((x.aliases.take i.1).map (·.name)))) (fun i => n_c3 - i.1) (0, r) ⟨Nat.zero_le _, by simpa [addKs] using hr⟩ ?_ ?_
  · (cbv; repeat' apply And.intro); all_goals (try (first | trivial | rfl | (rw [X.a]; rfl)))
  clear hr
  rintro ⟨i, r⟩ ⟨hi, hr⟩
  simp only at hi hr
  cbv
  refine ⟨fun h1 => ?_, fun h1 => ?_⟩
  · have h5 : i < x.aliases.length := by obtain rfl := X.a; simp only [hlen_c3, SD, bNot] at h1; omega
    have k1 := (aeAt X.a hc3 h5).1
    have hid : A.idx (Int.ofNat i) (A.len c3) := by rw [X.a, hc3]; exact leaf_idx h5
    have hin : A.inr .i64 (A.add (Int.ofNat i) 1) := by rw [X.a]; exact leaf_inc h5 (by omega)
    cbv
    refine ⟨hid, ?_⟩
    refine X.call (F49 hr fun r' hr' => ?_)
    cbv
    refine .inl ⟨hin, fun _ => ?_⟩
    refine ⟨(i+1, r'), ⟨by simp only; omega, ?_⟩, by simp only; omega, ?_⟩
    · simp only; rw [hr', k1, map_take h5, addKs_snoc]
    · (cbv; repeat' apply And.intro); all_goals (try (first | trivial | rfl | (rw [X.a]; rfl)))
  have h5 : i = n_c3 := by obtain rfl := X.a; simp only [hlen_c3, SD, bNot] at h1; omega
  subst h5
  rw [hn_c3, List.take_length] at hr
  clear h1 hi
  cbv
  refine h r ?_
  rw [hr, ← hm2, ← hm1, namesL, addKs_app, addKs_app]
end Go.VC.T07
end

section
/- The reference's sets of names. -/
set_option linter.unusedSimpArgs false
set_option linter.unusedVariables false
namespace Go.VC
/-- a name laid into a sorted list -/
def insS (s : S) : List S → List S
  | [] => [s]
  | x :: l => if slt x s then x :: insS s l else if x = s then x :: l else s :: x :: l
theorem insS_mem {s y : S} : ∀ {l : List S}, y ∈ insS s l ↔ y = s ∨ y ∈ l
  | [] => by simp [insS]
  | x :: l => by
    unfold insS
    split
    · rw [List.mem_cons, insS_mem (l := l), List.mem_cons]
      constructor
      · rintro (h | h | h); exact .inr (.inl h); exact .inl h; exact .inr (.inr h)
      · rintro (h | h | h); exact .inr (.inl h); exact .inl h; exact .inr (.inr h)
    · split
      · rename_i h; subst h; simp
      · simp
theorem insS_srt {s : S} : ∀ {l : List S}, SrtS l → SrtS (insS s l)
  | [], _ => by unfold insS SrtS; simp
  | x :: l, h => by
    obtain ⟨h1, h2⟩ := List.pairwise_cons.1 h
    unfold insS
    split
    · rename_i hx
      refine List.pairwise_cons.2 ⟨fun y hy => ?_, insS_srt h2⟩
      rcases insS_mem.1 hy with rfl | hy
      · exact hx
      · exact h1 y hy
    · rename_i hx
      split
      · exact h
      · rename_i hne
        have hsx : slt s x = true := by
          cases hb : slt s x with
          | true => rfl
          | false => exact absurd (slt_tri (by simpa using hx) hb) hne
        refine List.pairwise_cons.2 ⟨fun y hy => ?_, h⟩
        rcases List.mem_cons.1 hy with rfl | hy
        · exact hsx
        · exact slt_trans hsx (h1 y hy)
theorem insS_at {s : S} : ∀ {l : List S} {i : Nat}, i ≤ l.length → (∀ x ∈ l.take i, slt x s = true) → (∀ h : i < l.length, slt l[i] s = false) →
    insS s l = if l[i]? = some s then l else l.take i ++ s :: l.drop i
  | [], i, h, _, _ => by simp at h; subst h; simp [insS]
  | x :: l, 0, _, _, h => by
    have h0 := h (by simp)
    simp only [List.getElem_cons_zero] at h0
    unfold insS
    rw [if_neg (by rw [h0]; simp)]
    simp only [List.getElem?_cons_zero, Option.some.injEq, List.take_zero, List.drop_zero, List.nil_append]
  | x :: l, i+1, hi, ha, h => by
    have h0 := ha x (by simp)
    have ih := insS_at (s := s) (l := l) (i := i) (by simpa using hi) (fun y hy => ha y (by simp [hy])) (fun hh => by have := h (by simpa using hh); simpa using this)
    unfold insS
    rw [if_pos h0, ih, List.getElem?_cons_succ, List.take_succ_cons, List.drop_succ_cons]
    split <;> rfl
theorem insS_len {s : S} : ∀ {l : List S}, (insS s l).length ≤ l.length + 1
  | [] => by simp [insS]
  | x :: l => by
    have := insS_len (s := s) (l := l)
    unfold insS
    split
    · simp; omega
    · split <;> simp
section
variable {α : Type} {f : α → List D} {l : List α} {i : Nat} {y : α} {ys : List D} {A : Alg} {d : D}
theorem app1 (ha : A = Std) (hd : d = encL f l) : A.app (A.lit []) (A.part d 0 (Int.ofNat i)) = encL f (l.take i) := by
  rw [ha, hd, Std_partI, show Std.lit [] = encL f [] from rfl, Std_app]; simp
theorem app2 (ha : A = Std) (hd : d = encL f l) (hy : ys = f y) : A.app (A.app (A.lit []) (A.part d 0 (Int.ofNat i))) (A.lit [ys]) = encL f (l.take i ++ [y]) := by
  rw [app1 ha hd, ha, hy]; exact Std_app (k := [y])
theorem app3 (ha : A = Std) (hd : d = encL f l) (hy : ys = f y) : A.app (A.app (A.app (A.lit []) (A.part d 0 (Int.ofNat i))) (A.lit [ys])) (A.part d (Int.ofNat i) (A.len d)) = encL f (l.take i ++ y :: l.drop i) := by
  rw [app2 ha hd hy, ha, hd, Std_partI, Std_app, Std_len]; simp [List.take_of_length_le]
theorem bnd1 (ha : A = Std) (hd : d = encL f l) (hl : l.length ≤ 4294967290) : A.bnd (A.add (A.len (A.lit [])) (A.len (A.part d 0 (Int.ofNat i)))) 4294967296 := by
  rw [ha, hd, Std_partI, Std_len, show Std.lit [] = encL f [] from rfl, Std_len]
  exact ⟨by simp [Std, std], by simp [Std, std]; omega⟩
theorem bnd2 (ha : A = Std) (hd : d = encL f l) (hl : l.length ≤ 4294967290) : A.bnd (A.add (A.len (A.app (A.lit []) (A.part d 0 (Int.ofNat i)))) (A.len (A.lit [ys]))) 4294967296 := by
  rw [app1 ha hd, ha, Std_len, Std_len_lit]
  exact ⟨by simp [Std, std]; omega, by simp [Std, std]; omega⟩
theorem bnd3 (ha : A = Std) (hd : d = encL f l) (hi : i ≤ l.length) (hl : l.length ≤ 4294967290) (hy : ys = f y) : A.bnd (A.add (A.len (A.app (A.app (A.lit []) (A.part d 0 (Int.ofNat i))) (A.lit [ys]))) (A.len (A.part d (Int.ofNat i) (A.len d)))) 4294967296 := by
  rw [app2 ha hd hy, ha, hd, Std_partI, Std_len, Std_len, Std_len]
  exact ⟨by simp [Std, std]; omega, by simp [Std, std]; omega⟩
end
def sortS (l : List S) : List S := l.foldl (fun a s => insS s a) []
theorem insA_spec : ∀ (l : List S) (a : List S), SrtS a → SrtS (l.foldl (fun a s => insS s a) a) ∧ ∀ y, y ∈ l.foldl (fun a s => insS s a) a ↔ y ∈ l ∨ y ∈ a
  | [], a, h => ⟨h, by simp⟩
  | x :: l, a, h => by
    obtain ⟨h1, h2⟩ := insA_spec l (insS x a) (insS_srt h)
    refine ⟨h1, fun y => ?_⟩
    rw [List.foldl_cons, h2, insS_mem, List.mem_cons]
    constructor
    · rintro (h | h | h); exact .inl (.inr h); exact .inl (.inl h); exact .inr h
    · rintro ((h | h) | h); exact .inr (.inl h); exact .inl h; exact .inr (.inr h)
theorem sortS_srt (l : List S) : SrtS (sortS l) := (insA_spec l [] (by unfold SrtS; simp)).1
theorem sortS_mem (l : List S) (y : S) : y ∈ sortS l ↔ y ∈ l := by unfold sortS; rw [(insA_spec l [] (by unfold SrtS; simp)).2]; simp
theorem sortS_of {l m : List S} (h : SrtS l) (hm : ∀ s, s ∈ l ↔ s ∈ m) : l = sortS m := SrtS_ext h (sortS_srt m) fun s => by rw [hm, sortS_mem]
end Go.VC
namespace Go.VC.T07
open Go Go.VC Go.Proofs
def g52a : Cfg := {tt := tt, n := 45, sch := g52.sch, own := [33]}
set_option maxRecDepth 100000 in
set_option maxHeartbeats 1000000 in
theorem F52 {l : List S} {s : S} {d : D} {K : PV → List Ob → Prop} (hd : d = encL encS l) (hl : l.length ≤ 4294967290) (h : ∀ r, r = encL encS (insS s l) → K (.lst 9 r) []) :
    FC Tryz.prog tt 52 [] [.lst 9 d, .str s] K := by
  refine FC.enter (G := g52a) tt_ok mixed ⟨Tryz.func52, by rfl, rfl⟩ rfl rfl rfl ?_
  intro A C L X
  obtain ⟨n_d, hn_d⟩ : ∃ n, n = (l).length := ⟨_, rfl⟩
  have hlen_d : Std.len d = Int.ofNat n_d := by rw [hd, Std_len, hn_d]; rfl
  cbv
  refine X.loop (fun (i : Nat) => ⟨[(5, .int .i64 i), (0, .lst 9 d), (1, .str s)], []⟩) (fun i => i ≤ n_d ∧ ∀ x ∈ l.take i, slt x s = true) (fun i => n_d - i) 0 ⟨Nat.zero_le _, by simp⟩ ?_ ?_
  · (cbv; repeat' apply And.intro); all_goals (try (first | trivial | rfl | (rw [X.a]; rfl)))
  rintro i ⟨hi, ha⟩
  cbv
  have b1 : A.bnd (Int.ofNat i) (A.len d) := by rw [X.a, hlen_d]; simp only [SD, bNot]; omega
  have b2 : A.bnd 0 (Int.ofNat i) := by rw [X.a]; simp only [SD, bNot]; omega
  have b3 : A.bnd (A.len d) (A.len d) := by rw [X.a, hlen_d]; simp only [SD, bNot]; omega
  have hys : ([.str s] : List D) = encS s := rfl
  have b4 := bnd1 (i := i) X.a hd hl
  have b5 := bnd2 (i := i) (ys := [.str s]) X.a hd hl
  have b6 := bnd3 X.a hd (by omega : i ≤ l.length) hl hys
  have e3 := app3 (i := i) X.a hd hys
  have q : insS s l = l.take i ++ s :: l.drop i → K (.lst 9 (A.app (A.app (A.app (A.lit []) (A.part d 0 (Int.ofNat i))) (A.lit [[.str s]])) (A.part d (Int.ofNat i) (A.len d)))) [] := fun e => h _ (by rw [e3, e])
  refine ⟨fun h1 => ?_, fun h1 => ?_⟩
  · have h5 : i < l.length := by obtain rfl := X.a; simp only [hlen_d, SD, bNot] at h1; omega
    have k1 := strAt X.a hd h5
    have hlt : A.slt (A.asStr (A.cell d (Int.ofNat i) 0)) s = slt l[i] s := by rw [k1, X.a]; rfl
    have heq : A.seq (A.asStr (A.cell d (Int.ofNat i) 0)) s = decide (l[i] = s) := by rw [k1, X.a]; show (l[i] == s) = _; rw [Bool.eq_iff_iff]; simp
    have hlt0 : A.lt (Int.ofNat i) (A.len d) = true := h1
    have hid : A.idx (Int.ofNat i) (A.len d) := by rw [X.a, hd]; exact leaf_idx h5
    have hin : A.inr .i64 (A.add (Int.ofNat i) 1) := by rw [X.a]; exact leaf_inc h5 (by omega)
    cbv
    repeat' (first | apply And.intro | exact fun (_ : False → False) => by kernel_rfl | (intro h2; cbv) | apply Or.inl)
    any_goals exact hid
    any_goals exact hin
    any_goals exact b1
    any_goals exact b2
    any_goals exact b3
    any_goals exact b4
    any_goals exact b5
    any_goals exact b6
    · refine ⟨i+1, ⟨by omega, ?_⟩, by omega, ?_⟩
      · rename_i h3
        have h4 : slt l[i] s = true := by rw [← k1]; obtain rfl := X.a; simpa only [SD, bNot] using h3
        rw [take_succ' h5]; intro x hx
        rcases List.mem_append.1 hx with hx | hx
        · exact ha x hx
        · simp at hx; subst hx; exact h4
      (cbv; repeat' apply And.intro); all_goals (try (first | trivial | rfl | (rw [X.a]; rfl)))
    all_goals first
      | (exfalso; have := hlt0.symm.trans h2; exact absurd this (by decide))
      | (rename_i g1 g2
         have hs : l[i]? = some s := by rw [List.getElem?_eq_getElem h5]; have := heq.symm.trans h2; simpa using this
         exact h d (by rw [insS_at (by omega) ha (fun _ => hlt.symm.trans g1), if_pos hs]; exact hd))
      | (rename_i g1 g2
         have hs : ¬ l[i]? = some s := by rw [List.getElem?_eq_getElem h5]; have := heq.symm.trans h2; simpa using this
         exact q (by rw [insS_at (by omega) ha (fun _ => hlt.symm.trans g1), if_neg hs]))
      | skip
    all_goals trace_state
  have h5 : i = n_d := by obtain rfl := X.a; simp only [hlen_d, SD, bNot] at h1; omega
  have hs : ¬ l[i]? = some s := by rw [List.getElem?_eq_none (by omega)]; simp
  have q := q (by rw [insS_at (by omega) ha (fun _ => by omega), if_neg hs])
  have hlt0 : A.lt (Int.ofNat i) (A.len d) = false := h1
  cbv
  repeat' (first | apply And.intro | exact fun (_ : False → False) => by kernel_rfl | (intro h2; cbv) | apply Or.inl)
  any_goals exact b1
  any_goals exact b2
  any_goals exact b3
  any_goals exact b4
  any_goals exact b5
  any_goals exact b6
  all_goals first
    | (exfalso; have := hlt0.symm.trans h2; exact absurd this (by decide))
    | exact q
    | (exfalso; rename_i g1; have := hlt0.symm.trans g1; exact absurd this (by decide))
    | skip
end Go.VC.T07
end

section
/- The library's sorting contract for api.Use at this program (written by the kit's lay-plain.mjs). -/
namespace Go.Proofs
open Go.Shelf
def Tryz.sortUse_ren : Go.Shelf.Ren := ⟨fun | 6 => 118 | 15 => 113 | 14 => 142 | 28 => 139 | 29 => 140 | 20 => 152 | 21 => 153 | 22 => 154 | 23 => 155 | 24 => 156 | 25 => 157 | 26 => 158 | 27 => 159 | 46 => 161 | 47 => 148 | 48 => 149 | 49 => 162 | 50 => 163 | 57 => 164 | n => n, fun | 22 => 96 | 24 => 99 | 25 => 143 | 3 => 3 | 39 => 163 | 0 => 0 | 53 => 186 | 55 => 188 | 4 => 4 | 46 => 178 | 45 => 177 | 50 => 183 | 5 => 5 | 9 => 9 | 66 => 195 | 70 => 199 | 76 => 206 | 77 => 207 | n => n, fun | n => n⟩
theorem Tryz.sortUse : Go.Proofs.SlLaysF0.n6 Tryz.prog Tryz.sortUse_ren := {
  mixed := by kernel_rfl
  f6 := ⟨Tryz.f118.name, by decide, Tryz.func118.trans (congrArg some (by kernel_rfl))⟩
  f14 := ⟨Tryz.f142.name, by decide, Tryz.func142.trans (congrArg some (by kernel_rfl))⟩
  f15 := Tryz.func113.trans (congrArg some (by kernel_rfl))
  f20 := ⟨Tryz.f152.name, by decide, Tryz.func152.trans (congrArg some (by kernel_rfl))⟩
  f21 := ⟨Tryz.f153.name, by decide, Tryz.func153.trans (congrArg some (by kernel_rfl))⟩
  f22 := ⟨Tryz.f154.name, by decide, Tryz.func154.trans (congrArg some (by kernel_rfl))⟩
  f23 := ⟨Tryz.f155.name, by decide, Tryz.func155.trans (congrArg some (by kernel_rfl))⟩
  f24 := ⟨Tryz.f156.name, by decide, Tryz.func156.trans (congrArg some (by kernel_rfl))⟩
  f25 := ⟨Tryz.f157.name, by decide, Tryz.func157.trans (congrArg some (by kernel_rfl))⟩
  f26 := ⟨Tryz.f158.name, by decide, Tryz.func158.trans (congrArg some (by kernel_rfl))⟩
  f27 := ⟨Tryz.f159.name, by decide, Tryz.func159.trans (congrArg some (by kernel_rfl))⟩
  f28 := Tryz.func139.trans (congrArg some (by kernel_rfl))
  f29 := Tryz.func140.trans (congrArg some (by kernel_rfl))
  f46 := ⟨Tryz.f161.name, by decide, Tryz.func161.trans (congrArg some (by kernel_rfl))⟩
  f47 := Tryz.func148.trans (congrArg some (by kernel_rfl))
  f48 := Tryz.func149.trans (congrArg some (by kernel_rfl))
  f49 := ⟨Tryz.f162.name, by decide, Tryz.func162.trans (congrArg some (by kernel_rfl))⟩
  f50 := ⟨Tryz.f163.name, by decide, Tryz.func163.trans (congrArg some (by kernel_rfl))⟩
  f57 := ⟨Tryz.f164.name, by decide, Tryz.func164.trans (congrArg some (by kernel_rfl))⟩
  t0 := Tryz.underlying0
  a0 := Tryz.isAgg0
  z0 := Tryz.sizeOf0
  v0 := Tryz.zeroValue0
  t3 := Tryz.underlying3
  a3 := Tryz.isAgg3
  z3 := Tryz.sizeOf3
  v3 := Tryz.zeroValue3
  t4 := Tryz.underlying4
  a4 := Tryz.isAgg4
  z4 := Tryz.sizeOf4
  v4 := Tryz.zeroValue4
  t5 := Tryz.underlying5
  a5 := Tryz.isAgg5
  z5 := Tryz.sizeOf5
  v5 := Tryz.zeroValue5
  t9 := Tryz.underlying9
  a9 := Tryz.isAgg9
  z9 := Tryz.sizeOf9
  v9 := Tryz.zeroValue9
  t22 := Tryz.underlying96
  a22 := Tryz.isAgg96
  z22 := Tryz.sizeOf96
  v22 := Tryz.zeroValue96
  t25 := Tryz.underlying143
  a25 := Tryz.isAgg143
  z25 := Tryz.sizeOf143
  v25 := Tryz.zeroValue143
  t39 := Tryz.underlying163
  a39 := Tryz.isAgg163
  z39 := Tryz.sizeOf163
  v39 := Tryz.zeroValue163
  t45 := Tryz.underlying177
  a45 := Tryz.isAgg177
  z45 := Tryz.sizeOf177
  v45 := Tryz.zeroValue177
  t46 := Tryz.underlying178
  a46 := Tryz.isAgg178
  z46 := Tryz.sizeOf178
  v46 := Tryz.zeroValue178
  t50 := Tryz.underlying183
  a50 := Tryz.isAgg183
  z50 := Tryz.sizeOf183
  v50 := Tryz.zeroValue183
  t53 := Tryz.underlying186
  a53 := Tryz.isAgg186
  z53 := Tryz.sizeOf186
  v53 := Tryz.zeroValue186
  t55 := Tryz.underlying188
  a55 := Tryz.isAgg188
  z55 := Tryz.sizeOf188
  v55 := Tryz.zeroValue188
  t66 := Tryz.underlying195
  a66 := Tryz.isAgg195
  z66 := Tryz.sizeOf195
  v66 := Tryz.zeroValue195
  t70 := Tryz.underlying199
  a70 := Tryz.isAgg199
  z70 := Tryz.sizeOf199
  v70 := Tryz.zeroValue199
  t76 := Tryz.underlying206
  a76 := Tryz.isAgg206
  z76 := Tryz.sizeOf206
  v76 := Tryz.zeroValue206
  t77 := Tryz.underlying207
  a77 := Tryz.isAgg207
  z77 := Tryz.sizeOf207
  v77 := Tryz.zeroValue207 }
end Go.Proofs
end

section
/- The comparison of uses. -/
set_option linter.unusedSimpArgs false
set_option linter.unusedVariables false
namespace Go.VC
abbrev U := S × S
def encU (x : U) : List D := [.str x.1, .str x.2]
def ltU (a b : U) : Bool := if a.1 = b.1 then slt a.2 b.2 else slt a.1 b.1
def cmpS (a b : S) : Int := if slt a b then -1 else if slt b a then 1 else 0
def cmpU (a b : U) : Int := if cmpS a.1 b.1 ≠ 0 then cmpS a.1 b.1 else cmpS a.2 b.2
theorem cmpS_eq {a b : S} : cmpS a b = 0 ↔ a = b := by
  unfold cmpS
  split
  · rename_i h; constructor
    · intro e; omega
    · intro e; subst e; rw [slt_irrefl] at h; cases h
  · rename_i h
    split
    · rename_i h2; constructor
      · intro e; omega
      · intro e; subst e; rw [slt_irrefl] at h2; cases h2
    · rename_i h2; simp only [true_iff]; exact slt_tri (by simpa using h) (by simpa using h2)
theorem cmpS_lt {a b : S} : (cmpS a b < 0) ↔ slt a b = true := by
  unfold cmpS
  split
  · rename_i h; simp [h]
  · rename_i h
    split <;> simp [h]
theorem cmpU_lt {a b : U} : decide (cmpU a b < 0) = ltU a b := by
  unfold cmpU ltU
  by_cases h : a.1 = b.1
  · rw [if_neg (by simp [cmpS_eq.2 h]), if_pos h]
    cases hb : slt a.2 b.2 with
    | true => rw [decide_eq_true_iff]; exact cmpS_lt.2 hb
    | false => rw [decide_eq_false_iff_not]; intro h2; rw [cmpS_lt.1 h2] at hb; cases hb
  · rw [if_pos (fun e => h (cmpS_eq.1 e)), if_neg h]
    cases hb : slt a.1 b.1 with
    | true => rw [decide_eq_true_iff]; exact cmpS_lt.2 hb
    | false => rw [decide_eq_false_iff_not]; intro h2; rw [cmpS_lt.1 h2] at hb; cases hb
theorem ltU_irrefl (a : U) : ltU a a = false := by unfold ltU; rw [if_pos rfl, slt_irrefl]
theorem ltU_trans {a b c : U} (h : ltU a b = true) (h' : ltU b c = true) : ltU a c = true := by
  unfold ltU at *
  by_cases e1 : a.1 = b.1
  · rw [if_pos e1] at h
    by_cases e2 : b.1 = c.1
    · rw [if_pos e2] at h'; rw [if_pos (e1.trans e2)]; exact slt_trans h h'
    · rw [if_neg e2] at h'; rw [if_neg (fun e => e2 (e1.symm.trans e)), e1]; exact h'
  · rw [if_neg e1] at h
    by_cases e2 : b.1 = c.1
    · rw [if_pos e2] at h'; rw [if_neg (fun e => e1 (e.trans e2.symm)), ← e2]; exact h
    · rw [if_neg e2] at h'
      have ht := slt_trans h h'
      rw [if_neg (fun e => by rw [e, slt_irrefl] at ht; cases ht)]; exact ht
theorem ltU_tri {a b : U} (h : ltU a b = false) (h' : ltU b a = false) : a = b := by
  unfold ltU at *
  by_cases e1 : a.1 = b.1
  · rw [if_pos e1] at h; rw [if_pos e1.symm] at h'
    exact Prod.ext e1 (slt_tri h h')
  · rw [if_neg e1] at h; rw [if_neg (fun e => e1 e.symm)] at h'
    exact absurd (slt_tri h h') e1
theorem ltU_asymm {a b : U} (h : ltU a b = true) : ltU b a = false := by
  cases hb : ltU b a with
  | false => rfl
  | true => have := ltU_trans h hb; rw [ltU_irrefl] at this; cases this
theorem swoU : Go.Sort.SWO ltU where
  irrefl x := ltU_irrefl x
  trans x y z h1 h2 := ltU_trans h1 h2
  ntrans x y z h1 h2 := by
    cases hb : ltU x z with
    | false => rfl
    | true =>
      exfalso
      cases h3 : ltU y x with
      | true => have := ltU_trans h3 hb; rw [this] at h2; cases h2
      | false => have := ltU_tri h1 h3; subst this; rw [hb] at h2; cases h2
end Go.VC
namespace Go.VC.T07
open Go Go.VC Go.Proofs Go.Sort
set_option maxRecDepth 100000 in
theorem F120 {s : S} {K : PV → List Ob → Prop} (h : ∀ b, b = false → K (.bool b) []) : FC Tryz.prog tt 120 [] [.str s] K := by
  refine FC.enter (G := g120) tt_ok mixed ⟨Tryz.func120, by rfl, rfl⟩ rfl rfl rfl ?_
  intro A C L X
  have q := h (A.not (A.seq s s)) (by rw [X.a, Std_not, Std_seq]; simp)
  cbv
  exact q
set_option maxRecDepth 100000 in
theorem F94 {a b : S} {K : PV → List Ob → Prop} (h : ∀ r, r = cmpS a b → K (.int .i64 r) []) : FC Tryz.prog tt 94 [] [.str a, .str b] K := by
  refine FC.enter (G := g94) tt_ok mixed ⟨Tryz.func94, by rfl, rfl⟩ rfl rfl rfl ?_
  intro A C L X
  cbv
  refine X.call (F120 fun b1 h1 => ?_)
  obtain rfl := h1
  cbv
  refine X.call (F120 fun b2 h1 => ?_)
  obtain rfl := h1
  cbv
  repeat' (first | apply And.intro | exact fun (_ : False → False) => by kernel_rfl | (intro h2; cbv) | apply Or.inl)
  all_goals first
    | contradiction
    | (refine h _ ?_; unfold cmpS; obtain rfl := X.a; simp only [SD, bNot] at *; simp [*]; done)
    | (exfalso; obtain rfl := X.a; simp only [SD, bNot] at *; simp at *; done)
    | skip
set_option maxRecDepth 100000 in
theorem F93 {l : List Int} {d : D} {x y : Int} {K : PV → List Ob → Prop} (hd : d = encJ [x, y]) (h : ∀ r, r = (if x ≠ 0 then x else y) → K (.int .i64 r) []) : FC Tryz.prog tt 93 [] [.lst 3 d] K := by
  have hlen : Std.len d = Int.ofNat 2 := by rw [hd, encJ_len]; rfl
  have ha : ∀ A : Alg, A = Std → A.asInt (A.cell d (Int.ofNat 0) 0) = x ∧ A.asInt (A.cell d (Int.ofNat 1) 0) = y := by
    intro A hA; subst hA hd; simp only [encJ_cell]; exact ⟨rfl, rfl⟩
  refine FC.enter (G := g93) tt_ok mixed ⟨Tryz.func93, by rfl, rfl⟩ rfl rfl rfl ?_
  intro A C L X
  obtain ⟨k0, k1⟩ := ha A X.a
  cbv
  refine X.loop (fun (i : Nat) => ⟨[(8, .int .i64 i), (7, .int .i64 (A.len d)), (6, .lst 3 d), (3, .int .i64 0)], []⟩) (fun i => i ≤ 2 ∧ (1 ≤ i → x = 0) ∧ (2 ≤ i → y = 0)) (fun i => 2 - i) 0 ⟨Nat.zero_le _, by omega, by omega⟩ ?_ ?_
  · (cbv; repeat' apply And.intro); all_goals (try (first | trivial | rfl | (rw [X.a]; rfl)))
  rintro i ⟨hi, h5, h6⟩
  cbv
  refine ⟨fun h1 => ?_, fun h1 => ?_⟩
  · have h7 : i < 2 := by obtain rfl := X.a; simp only [hlen, SD, bNot] at h1; omega
    have hid : A.idx (Int.ofNat i) (A.len d) := by obtain rfl := X.a; rw [hlen, Std_idx]; simp only [Int.ofNat_eq_natCast]; omega
    have hin : A.inr .i64 (A.add (Int.ofNat i) 1) := by rw [X.a]; exact leaf_inc h7 (by omega)
    have hv : A.asInt (A.cell d (Int.ofNat i) 0) = (if i = 0 then x else y) := by
      rcases (by omega : i = 0 ∨ i = 1) with rfl | rfl
      · exact k0
      · exact k1
    cbv
    repeat' (first | apply And.intro | exact fun (_ : False → False) => by kernel_rfl | (intro h2; cbv) | apply Or.inl)
    any_goals exact hid
    any_goals exact hin
    · have e : ¬ (if i = 0 then x else y) = 0 := by rw [← hv]; obtain rfl := X.a; simpa only [SD, bNot] using h2
      refine h _ ?_
      refine hv.trans ?_
      by_cases hi0 : i = 0
      · rw [if_pos hi0] at e ⊢; rw [if_pos e]
      · rw [if_neg hi0] at e ⊢; rw [if_neg (by simp [h5 (by omega)])]
    · have e : (if i = 0 then x else y) = 0 := by rename_i g3; rw [← hv]; obtain rfl := X.a; simpa only [SD, bNot] using g3
      refine ⟨i+1, ⟨by omega, fun _ => ?_, fun _ => ?_⟩, by omega, ?_⟩
      · by_cases hi0 : i = 0
        · rw [if_pos hi0] at e; exact e
        · exact h5 (by omega)
      · rw [if_neg (by omega)] at e; exact e
      (cbv; repeat' apply And.intro); all_goals (try (first | trivial | rfl | (rw [X.a]; rfl)))
  · have h7 : i = 2 := by obtain rfl := X.a; simp only [hlen, SD, bNot] at h1; omega
    cbv
    refine h 0 ?_
    rw [if_neg (by simp [h5 (by omega)]), h6 (by omega)]
set_option maxRecDepth 100000 in
theorem F92 {a b : U} {K : PV → List Ob → Prop} (h : ∀ r, r = cmpU a b → K (.int .i64 r) []) : FC Tryz.prog tt 92 [] [.agg [.str a.1, .str a.2], .agg [.str b.1, .str b.2]] K := by
  obtain ⟨a1, a2⟩ := a
  obtain ⟨b1, b2⟩ := b
  refine FC.enter (G := g92) tt_ok mixed ⟨Tryz.func92, by rfl, rfl⟩ rfl rfl rfl ?_
  intro A C L X
  cbv
  repeat' (first | apply And.intro | exact fun (_ : False → False) => by kernel_rfl | (intro h2; cbv) | apply Or.inl)
  refine X.call (F94 fun r1 h1 => ?_)
  cbv
  repeat' (first | apply And.intro | exact fun (_ : False → False) => by kernel_rfl | (intro h2; cbv) | apply Or.inl)
  refine X.call (F94 fun r2 h2' => ?_)
  have hd : A.lit [[.int r1], [.int r2]] = encJ [r1, r2] := by rw [X.a]; rfl
  cbv
  repeat' (first | apply And.intro | exact fun (_ : False → False) => by kernel_rfl | (intro h2; cbv) | apply Or.inl)
  refine X.call (F93 (l := []) hd fun r hr => ?_)
  cbv
  repeat' (first | apply And.intro | exact fun (_ : False → False) => by kernel_rfl | (intro h2; cbv) | apply Or.inl)
  refine h _ ?_
  rw [hr, h1, h2']; rfl
end Go.VC.T07
end

section
/- The library's sort of uses. -/
set_option linter.unusedSimpArgs false
set_option linter.unusedVariables false
namespace Go.Proofs
open Go.Shelf Go.RowKit Go.Lib Go.Sort Go.VC
abbrev UB := ByteArray × ByteArray
instance : Inhabited UB := ⟨(⟨#[]⟩, ⟨#[]⟩)⟩
def UB.u (x : UB) : U := (x.1.data.toList, x.2.data.toList)
def encUV (x : UB) : List Value := [.string x.1, .string x.2]
def cfU (x y : UB) : Int := cmpU x.u y.u
theorem ltCfU (x y : UB) : ltOf cfU x y = ltU x.u y.u := cmpU_lt
theorem swoUB : SWO (ltOf cfU) where
  irrefl x := by rw [ltCfU]; exact swoU.irrefl _
  trans x y z h1 h2 := by rw [ltCfU] at *; exact swoU.trans _ _ _ h1 h2
  ntrans x y z h1 h2 := by rw [ltCfU] at *; exact swoU.ntrans _ _ _ h1 h2
theorem sort118 (blk off cap : Nat) (d : Array UB) (w : World) (hH : HoldsK encUV 2 w blk off d) (hblk : blk < w.heap.size) (hsz : d.size < 4611686018427387904) :
    Calls Tryz.prog 118 #[.slice (some ⟨blk, off, none⟩) d.size cap, .func (.func 92) #[] #[]] w fun e w' => e = .returned (.tuple #[]) ∧ ∃ d' n os, PermIn 0 d.size d d' ∧ SortedIn (ltOf cfU) 0 d.size d' ∧ w' = sortWorldK encUV 2 w blk off n d' os := by
  have eg : ∀ args w, (callFunc 92 args).run Tryz.prog w = .ok (.enter 92 args) w := enters_of Tryz.func92 (by kernel_rfl) rfl
  have hcmp : CmpLays Tryz.prog 92 #[] encUV 2 cfU blk off d.size w := by
    intro m os dk _ x y
    refine cmp_calls (r := cfU x y) ⟨Tryz.func92, by rfl, rfl⟩ (T07.F92 (a := x.u) (b := y.u) fun r hr => ?_) ?_
    · rw [hr]; rfl
    · exact .cons _ _ _ _ (.agg _ _ (.cons _ _ _ _ (.str _) (.cons _ _ _ _ (.str _) .nil))) (.cons _ _ _ _ (.agg _ _ (.cons _ _ _ _ (.str _) (.cons _ _ _ _ (.str _) .nil))) .nil)
  exact AnyQ.slices_SortFunc Tryz.sortUse 2 Tryz.isAgg99 Tryz.sizeOf99 encUV (fun _ => rfl) (fun x v hv => by simp [encUV] at hv; rcases hv with rfl | rfl <;> rfl) cfU swoUB 92 #[] blk off cap d w eg hcmp hH hblk hsz
theorem sort118_none (p : Option Addr) (cap : Nat) (w : World) : Calls Tryz.prog 118 #[.slice p 0 cap, .func (.func 92) #[] #[]] w fun e w' => e = .returned (.tuple #[]) ∧ w' = w :=
  AnyF.slices_SortFunc_none Tryz.sortUse p cap _ w
end Go.Proofs
namespace Go.VC.T07
open Go Go.VC Go.Proofs Go.Sort
theorem cks99 : cksOf tt 99 = [.str, .str] := by kernel_rfl
theorem ex_clos {f : FuncId} : ∀ (E : List RI) (Pp : Per) (vs : List Value), VRL tt E Pp vs [.clos f []] → vs = [.func (.func f) #[] #[]] := by
  intro E Pp vs h
  cases h with
  | cons v p vs ps h t => cases t; cases h with | clos f vs cs h => cases h; rfl
def ltUD (x y : List D) : Bool := ltU (Std.asStr (x.getD 0 .nil), Std.asStr (x.getD 1 .nil)) (Std.asStr (y.getD 0 .nil), Std.asStr (y.getD 1 .nil))
theorem F118 {l : List U} {d : D} {K : PV → List Ob → Prop} (hd : d = encL encU l) (hn : l.length < 4294967296)
    (h : ∀ (m : List U) r, m.Perm l → m.Pairwise (fun a b => ltU b a = false) → r = encL encU m → K (.tup []) [.row 99 r true]) : FC Tryz.prog tt 118 [.row 99 d true] [.row 99 0, .clos 92 []] K := by
  subst hd
  have rel1 : ∀ {Pp : Per} {us : List Value} {row : List D}, RelV tt Pp 99 us row → ∃ a b : ByteArray, us = [.string a, .string b] ∧ row = [.str a.data.toList, .str b.data.toList] := by
    intro Pp us row h
    obtain ⟨h1, h2, h3⟩ := h
    rw [cks99] at h1 h2 h3
    match us, row, h1, h2 with
    | [u0, u1], [r0, r1], _, _ =>
      obtain ⟨v0, e0, q0⟩ := h3 0 r0 _ rfl rfl
      obtain ⟨v1, e1, q1⟩ := h3 1 r1 _ rfl rfl
      simp at e0 e1; subst e0; subst e1
      obtain ⟨a, rfl, rfl⟩ := rd_str q0
      obtain ⟨b, rfl, rfl⟩ := rd_str q1
      exact ⟨a, b, rfl, rfl⟩
  refine sort_fc (e := 99) encUV cfU ltUD [.clos 92 []] [.func (.func 92) #[] #[]] ex_clos (fun x => by rw [cks99]; rfl) ?_ ?_ (enters_of Tryz.func118 (by kernel_rfl) rfl) (l.map encU) (by simp; omega) ?_ ?_ ?_
  · rw [cks99]; exact fun blk off cap d w => sort118 blk off cap d w
  · exact sort118_none
  · intro Pp us row hr hrel
    obtain ⟨a, b, rfl, _⟩ := rel1 hrel
    exact ⟨(a, b), rfl⟩
  · intro Pp x y rx ry h1 h2
    obtain ⟨a, b, e1, rfl⟩ := rel1 h1
    obtain ⟨a', b', e2, rfl⟩ := rel1 h2
    simp only [encUV, List.cons.injEq, Value.string.injEq, and_true] at e1 e2
    obtain ⟨x1, x2⟩ := x
    obtain ⟨y1, y2⟩ := y
    simp only at e1 e2
    obtain ⟨rfl, rfl⟩ := e1
    obtain ⟨rfl, rfl⟩ := e2
    rw [ltCfU]; rfl
  · intro rows' hp hs
    obtain ⟨m, h1, rfl⟩ := perm_map hp
    refine h m _ h1 ?_ rfl
    rw [List.pairwise_iff_getElem]
    intro i j hi hj hij
    have := hs i j (by simpa using hi) (by simpa using hj) hij
    simpa [ltUD, encU, Std_str] using this
end Go.VC.T07
end

section
/- Uses drawn together in a set; its sorted keys. -/
set_option linter.unusedSimpArgs false
set_option linter.unusedVariables false
namespace Go.VC
def encUB (x : U × Bool) : List D := [.ptr [.str x.1.1, .str x.1.2], .bool x.2]
theorem Std_pcell {l : List D} {i : Nat} : Std.pcell (.ptr l) i = l.getD i .nil := rfl
/-- a key laid into a set -/
def addU (m : List (U × Bool)) (k : U) : List (U × Bool) := match m with
  | [] => [(k, true)]
  | x :: r => if k = x.1 then (k, true) :: r else x :: addU r k
theorem Std_addU {m : List (U × Bool)} {k : U} : Std.mset (encL encUB m) (.ptr [.str k.1, .str k.2]) [.bool true] = encL encUB (addU m k) := by
  simp only [Std, std, encL, rowsD]
  congr 1
  induction m with
  | nil => rfl
  | cons x m ih =>
    have hk : hasKey (.ptr [.str k.1, .str k.2]) (encUB x) = (k == x.1) := rfl
    simp only [List.map_cons, setKey, addU]
    rw [hk]
    by_cases h : k = x.1
    · rw [if_pos (by simp [h]), if_pos h]; rfl
    · rw [if_neg (by simp [h]), if_neg h, List.map_cons, ← ih]
def addUs (m : List (U × Bool)) (l : List U) : List (U × Bool) := l.foldl addU m
theorem addUs_snoc {m : List (U × Bool)} {l : List U} {k : U} : addUs m (l ++ [k]) = addU (addUs m l) k := by simp [addUs]
theorem addUs_app {m : List (U × Bool)} {l k : List U} : addUs m (l ++ k) = addUs (addUs m l) k := by simp [addUs]
theorem addU_keys {m : List (U × Bool)} {k s : U} : s ∈ (addU m k).map (·.1) ↔ s = k ∨ s ∈ m.map (·.1) := by
  induction m with
  | nil => simp [addU]
  | cons x m ih =>
    simp only [addU]
    split
    · rename_i h; simp only [List.map_cons, List.mem_cons, ← h]; constructor
      · rintro (h1 | h1); exact .inl h1; exact .inr (.inr h1)
      · rintro (h1 | h1 | h1); exact .inl h1; exact .inl h1; exact .inr h1
    · simp only [List.map_cons, List.mem_cons, ih]; constructor
      · rintro (h1 | h1 | h1); exact .inr (.inl h1); exact .inl h1; exact .inr (.inr h1)
      · rintro (h1 | h1 | h1); exact .inr (.inl h1); exact .inl h1; exact .inr (.inr h1)
theorem addU_nodup {m : List (U × Bool)} {k : U} (h : (m.map (·.1)).Nodup) : ((addU m k).map (·.1)).Nodup := by
  induction m with
  | nil => simp [addU]
  | cons x m ih =>
    rw [List.map_cons, List.nodup_cons] at h
    simp only [addU]
    split
    · rename_i hk; rw [List.map_cons, List.nodup_cons]; subst hk; exact h
    · rename_i hk
      rw [List.map_cons, List.nodup_cons, addU_keys]
      exact ⟨fun h1 => by rcases h1 with h1 | h1; exact hk h1.symm; exact h.1 h1, ih h.2⟩
theorem addU_len {m : List (U × Bool)} {k : U} : (addU m k).length ≤ m.length + 1 := by
  induction m with
  | nil => simp [addU]
  | cons x m ih => simp only [addU]; split <;> simp; omega
theorem addUs_keys {l : List U} : ∀ {m : List (U × Bool)} {s : U}, s ∈ (addUs m l).map (·.1) ↔ s ∈ l ∨ s ∈ m.map (·.1) := by
  induction l with
  | nil => intro m s; simp [addUs]
  | cons x l ih =>
    intro m s
    show s ∈ (addUs (addU m x) l).map (·.1) ↔ _
    rw [ih, addU_keys, List.mem_cons]
    constructor
    · rintro (h | h | h); exact .inl (.inr h); exact .inl (.inl h); exact .inr h
    · rintro ((h | h) | h); exact .inr (.inl h); exact .inl h; exact .inr (.inr h)
theorem addUs_nodup {l : List U} : ∀ {m : List (U × Bool)}, (m.map (·.1)).Nodup → ((addUs m l).map (·.1)).Nodup := by
  induction l with
  | nil => intro m h; exact h
  | cons x l ih => intro m h; exact ih (addU_nodup h)
theorem addUs_len {l : List U} : ∀ {m : List (U × Bool)}, (addUs m l).length ≤ m.length + l.length := by
  induction l with
  | nil => intro m; simp [addUs]
  | cons x l ih =>
    intro m
    have h1 := ih (m := addU m x)
    have h2 := addU_len (m := m) (k := x)
    show (addUs (addU m x) l).length ≤ _
    simp; omega
/-- sorted, nothing twice -/
def SrtU (l : List U) : Prop := l.Pairwise fun a b => ltU a b = true
theorem SrtU_of {l : List U} (h : l.Pairwise fun a b => ltU b a = false) (hn : l.Nodup) : SrtU l := by
  induction l with
  | nil => exact List.Pairwise.nil
  | cons x l ih =>
    rw [List.pairwise_cons] at h
    rw [List.nodup_cons] at hn
    refine List.pairwise_cons.2 ⟨fun y hy => ?_, ih h.2 hn.2⟩
    cases hb : ltU x y with
    | true => rfl
    | false => exact absurd (ltU_tri hb (h.1 y hy)) fun e => hn.1 (e ▸ hy)
theorem SrtU_ext : ∀ {l m : List U}, SrtU l → SrtU m → (∀ s, s ∈ l ↔ s ∈ m) → l = m
  | [], [], _, _, _ => rfl
  | [], y :: m, _, _, h => by have := (h y).2 (by simp); simp at this
  | x :: l, [], _, _, h => by have := (h x).1 (by simp); simp at this
  | x :: l, y :: m, hl, hm, h => by
    obtain ⟨h1, h2⟩ := List.pairwise_cons.1 hl
    obtain ⟨h3, h4⟩ := List.pairwise_cons.1 hm
    have hxy : x = y := by
      rcases List.mem_cons.1 ((h x).1 (by simp)) with e | e
      · exact e
      · rcases List.mem_cons.1 ((h y).2 (by simp)) with e2 | e2
        · exact e2.symm
        · have a1 := h3 x e
          have a2 := h1 y e2
          rw [ltU_asymm a1] at a2; cases a2
    subst hxy
    congr 1
    refine SrtU_ext h2 h4 fun s => ⟨fun hs => ?_, fun hs => ?_⟩
    · rcases List.mem_cons.1 ((h s).1 (by simp [hs])) with e | e
      · subst e; have := h1 s hs; rw [ltU_irrefl] at this; cases this
      · exact e
    · rcases List.mem_cons.1 ((h s).2 (by simp [hs])) with e | e
      · subst e; have := h3 s hs; rw [ltU_irrefl] at this; cases this
      · exact e
end Go.VC
namespace Go.VC.T07
open Go Go.VC Go.Proofs
set_option maxRecDepth 100000 in
theorem F91 {d : D} {K : PV → List Ob → Prop} (h : K (.clos 119 [.box 1 0]) [.map .str2 4 d, .box [.mp 0]]) : FC Tryz.prog tt 91 [.map .str2 4 d] [.mp 0] K := by
  refine FC.enterLive (G := g91a) tt_ok mixed ⟨Tryz.func91, by rfl, rfl⟩ rfl rfl rfl ?_
  intro A C L X
  cbv
  exact h

set_option maxRecDepth 100000 in
theorem F119 {m : List (U × Bool)} {d : D} {c1 c2 : Code} {K : PV → List Ob → Prop} (hd : d = encL encUB m)
    (hy : ∀ (k : U) (l : List U) (r : D) (K' : PV → List Ob → Prop), r = encL encU l → l.length < m.length → (∀ r', r' = encL encU (l ++ [k]) → K' (.bl true) [.loop 13 [7] c1 c2 [(2, .box 1 0)] .ready, .box [.row 99 3], .dead, .row 99 r' true]) → YC Tryz.prog tt [.loop 13 [7] c1 c2 [(2, .box 1 0)] .ready, .box [.row 99 2], .row 99 r true] [.agg [.str k.1, .str k.2]] K')
    (h : ∀ (l : List U) (r : D), r = encL encU l → l.Perm (m.map (·.1)) → K (.tup []) [.loop 13 [7] c1 c2 [(2, .box 2 0)] .ready, .box [.mp 3], .box [.row 99 5], .map .str2 4 d, .dead, .row 99 r true]) :
    FC Tryz.prog tt 119 [.loop 13 [7] c1 c2 [(2, .box 2 0)] .ready, .box [.mp 3], .box [.row 99 4], .map .str2 4 d, .row 99 (.list []) true] [.yld 0, .box 1 0] K := by
  refine FC.enterLive (G := g119a) tt_ok mixed ⟨Tryz.func119, by rfl, rfl⟩ rfl rfl rfl ?_
  intro A C L X
  have hen : (A = Std) := X.a
  cbv
  refine X.loopP (fun (x : List Int × D × D) => ⟨[(5, .it 6), (4, .mp 3), (0, .yld 0), (1, .box 1 0)], [.loop 13 [7] c1 c2 [(2, .box 2 0)] .ready, .box [.mp 3], .box [.row 99 5], .map .str2 4 d, .dead, .row 99 x.2.2 true, .iter 3 x.2.1]⟩)
    (fun x => x.2.1 = encJ x.1 ∧ x.2.2 = encL encU (x.1.map fun j => (m.getD j.toNat (([], []), false)).1) ∧ x.1.Nodup ∧ ∀ j ∈ x.1, 0 ≤ j ∧ j < m.length) (fun x => m.length - x.1.length) ([], .list [], .list []) ⟨rfl, rfl, by simp, by simp⟩ ?_ ?_
  · refine ⟨[0, 1, 2, 3, 4, 5, 6], rfl, ?_⟩
    (cbv; repeat' apply And.intro); all_goals (try (first | trivial | rfl | (rw [X.a]; rfl)))
  rintro ⟨ks, z, r⟩ ⟨hz, hr, hnd, hb⟩
  simp only at hz hr hnd hb
  cbv
  refine ⟨fun h1 => ?_, fun j h1 => ?_⟩
  · cbv
    have ha := Std_allSeen (m := m) (f := encUB) (l := ks) (by rw [← hd, ← hz, ← X.a]; exact h1)
    refine h _ r hr ?_
    exact keys_perm hnd hb ha
  · obtain ⟨u0, u1, u2⟩ : 0 ≤ j ∧ j < m.length ∧ j ∉ ks := Std_unseen (by rw [← hd, ← hz, ← X.a]; exact h1)
    have hsee : A.see z j = encJ (ks ++ [j]) := by rw [X.a, hz, Std_see]
    have hlast : A.last (A.see z j) = j := by rw [hsee, X.a, Std_last]
    obtain ⟨i, rfl⟩ : ∃ i : Nat, j = Int.ofNat i := ⟨j.toNat, by simp only [Int.ofNat_eq_natCast]; omega⟩
    have hi : i < m.length := by simp only [Int.ofNat_eq_natCast] at u1; omega
    have hk1 : A.asStr (A.pcell (A.cell d (A.last (A.see z (Int.ofNat i))) 0) 0) = (m.getD i (([], []), false)).1.1 := by
      rw [hlast, cellAt X.a hd hi, X.a]
      simp [encUB, Std_str, Std_pcell, hi]
    have hk2 : A.asStr (A.pcell (A.cell d (A.last (A.see z (Int.ofNat i))) 0) 1) = (m.getD i (([], []), false)).1.2 := by
      rw [hlast, cellAt X.a hd hi, X.a]
      simp [encUB, Std_str, Std_pcell, hi]
    have hk : (A.asStr (A.pcell (A.cell d (A.last (A.see z (Int.ofNat i))) 0) 0), A.asStr (A.pcell (A.cell d (A.last (A.see z (Int.ofNat i))) 0) 1)) = (m.getD i (([], []), false)).1 := Prod.ext hk1 hk2
    have g1 : A.idx 0 (A.len (A.see z (Int.ofNat i))) := by rw [hsee, X.a, encJ_len, Std_idx]; simp
    have g2 : A.idx (A.last (A.see z (Int.ofNat i))) (A.len d) := by rw [hlast, X.a, hd]; exact leaf_idx hi
    cbv
    refine ⟨g1, g2, ?_⟩
    have hkl : (ks.map fun j => (m.getD j.toNat (([], []), false)).1).length < m.length := by
      rw [List.length_map]
      exact keys_lt hnd hb (i := i) hi u2
    refine X.round (hy (A.asStr (A.pcell (A.cell d (A.last (A.see z (Int.ofNat i))) 0) 0), A.asStr (A.pcell (A.cell d (A.last (A.see z (Int.ofNat i))) 0) 1)) _ _ _ hr hkl fun r' hr' => ?_)
    cbv
    refine ⟨(ks ++ [Int.ofNat i], A.see z (Int.ofNat i), r'), ⟨hsee, ?_, ?_, ?_⟩, ?_, [0, 1, 2, 3, 4, 8, 6], rfl, ?_⟩
    · show r' = _
      rw [hr', hk]; simp
    · rw [List.nodup_append]; exact ⟨hnd, by simp, fun a ha b hb => by simp at hb; subst hb; exact fun e => u2 (show (i : Int) ∈ ks from e ▸ ha)⟩
    · intro j hj
      rcases List.mem_append.1 hj with hj | hj
      · exact hb j hj
      · simp only [List.mem_singleton] at hj; subst hj; exact ⟨u0, u1⟩
    · simp only [List.length_append, List.length_map] at *; simp; omega
    · (cbv; repeat' apply And.intro); all_goals (try (first | trivial | rfl | (rw [X.a]; rfl)))
set_option maxRecDepth 100000 in
set_option maxHeartbeats 1000000 in
theorem F141 {m : List (U × Bool)} {d : D} {K : PV → List Ob → Prop} (hd : d = encL encUB m) (hm : m.length < 4294967296)
    (h : ∀ (l : List U) (r : D), r = encL encU l → l.Perm (m.map (·.1)) → K (.row 99 3) [.dead, .box [.mp 2], .map .str2 4 d, .row 99 r true]) :
    FC Tryz.prog tt 141 [.row 99 (.list []) true, .box [.mp 2], .map .str2 4 d] [.row 99 0, .clos 119 [.box 1 0]] K := by
  refine FC.enterLive (G := g141a) tt_ok mixed ⟨Tryz.func141, by rfl, rfl⟩ rfl rfl rfl ?_
  intro A C L X
  cbv
  refine X.range rfl ⟨Tryz.func119, by rfl, rfl⟩ rfl [(2, .box 4 0)] ?_ ?_
  · cbv
  cbv
  refine X.call (F119 hd ?_ ?_)
  · intro k l r K' hr hl hK
    refine YC.enter (G := g141r) tt_ok mixed rfl rfl rfl rfl rfl ?_
    intro A C L X
    have hb : A.bnd (A.add (A.len r) (A.len (A.lit [[.str k.1, .str k.2]]))) 4294967296 := by
      obtain rfl := X.a; rw [hr]; simp only [SD, bNot]; omega
    have q := hK (A.app r (A.lit [[.str k.1, .str k.2]])) (by rw [X.a, hr]; exact Std_app (k := [k]))
    cbv
    exact ⟨hb, q⟩
  · intro l r hr hp
    cbv
    exact h l r hr hp
set_option maxRecDepth 100000 in
theorem F117 {m : List (U × Bool)} {d : D} {K : PV → List Ob → Prop} (hd : d = encL encUB m) (hm : m.length < 4294967296)
    (h : ∀ (l : List U) (r : D), r = encL encU l → l.Perm (m.map (·.1)) → K (.row 99 2) [.box [.mp 1], .map .str2 4 d, .row 99 r true]) :
    FC Tryz.prog tt 117 [.box [.mp 1], .map .str2 4 d] [.clos 119 [.box 0 0]] K := by
  refine FC.enterLive (G := g117) tt_ok mixed ⟨Tryz.func117, by rfl, rfl⟩ rfl rfl rfl ?_
  intro A C L X
  cbv
  refine X.call (F141 hd hm fun l r hr hp => ?_)
  cbv
  exact h l r hr hp
set_option maxRecDepth 100000 in
theorem F90 {m : List (U × Bool)} {d : D} {K : PV → List Ob → Prop} (hd : d = encL encUB m) (hm : m.length < 4294967296) (hn : (m.map (·.1)).Nodup)
    (h : ∀ (l : List U) (r : D), r = encL encU l → SrtU l → (∀ s, s ∈ l ↔ s ∈ m.map (·.1)) → K (.row 99 2) [.box [.mp 1], .map .str2 4 d, .row 99 r true]) :
    FC Tryz.prog tt 90 [.box [.mp 1], .map .str2 4 d] [.clos 119 [.box 0 0], .clos 92 []] K := by
  refine FC.enterLive (G := g90) tt_ok mixed ⟨Tryz.func90, by rfl, rfl⟩ rfl rfl rfl ?_
  intro A C L X
  cbv
  refine X.call (F117 hd hm fun l r hr hp => ?_)
  cbv
  refine X.call (F118 hr (by rw [hp.length_eq]; simpa using hm) fun l' r' hp' hs hr' => ?_)
  cbv
  have hp2 := hp'.trans hp
  exact h l' r' hr' (SrtU_of hs (hp2.nodup_iff.2 hn)) fun s => hp2.mem_iff

end Go.VC.T07
end

section
/- The reference's types. -/
set_option linter.unusedSimpArgs false
set_option linter.unusedVariables false
namespace Go.VC
def Ty.pts (t : Ty) : List Ty := t.ar ++ t.fl.map Fe.t
mutual
def Ty.size : Ty → Nat | .mk _ _ _ ar fl => 1 + Ty.sizes ar + Ty.sizef fl
def Fe.size : Fe → Nat | .mk _ t _ => Ty.size t
def Ty.sizes : List Ty → Nat | [] => 0 | t :: l => Ty.size t + Ty.sizes l
def Ty.sizef : List Fe → Nat | [] => 0 | t :: l => Fe.size t + Ty.sizef l
end
theorem sizes_eq : ∀ l : List Ty, Ty.sizes l = (l.map Ty.size).sum
  | [] => by simp [Ty.sizes]
  | t :: l => by simp [Ty.sizes, sizes_eq l]
theorem sizef_eq : ∀ l : List Fe, Ty.sizef l = ((l.map Fe.t).map Ty.size).sum
  | [] => by simp [Ty.sizef]
  | .mk s t b :: l => by simp [Ty.sizef, sizef_eq l, Fe.size, Fe.t]
theorem size_eq (t : Ty) : t.size = 1 + (t.pts.map Ty.size).sum := by
  cases t; simp only [Ty.size, sizes_eq, sizef_eq, Ty.pts, List.map_append, List.sum_append, Ty.ar, Ty.fl]; omega
theorem pts_mem {t u : Ty} (h : u ∈ t.pts) : (u ∈ t.ar) ∨ ∃ f ∈ t.fl, f.t = u := by
  rcases List.mem_append.1 h with h | h
  · exact .inl h
  · obtain ⟨f, h1, h2⟩ := List.mem_map.1 h; exact .inr ⟨f, h1, h2⟩
theorem Ty.pinduct {P : Ty → Prop} (h : ∀ t : Ty, (∀ u ∈ t.pts, P u) → P t) : ∀ t, P t :=
  Ty.parts fun t h1 h2 => h t fun u hu => by
    rcases pts_mem hu with hu | ⟨f, hf, rfl⟩
    · exact h1 u hu
    · exact h2 f hf
theorem pts_le {n : Nat} {t : Ty} (h : Ty.le n t) : ∀ u ∈ t.pts, Ty.le n u := fun u hu => by
  rcases pts_mem hu with hu | ⟨f, hf, rfl⟩
  · exact tyLe_a h _ hu
  · exact tyLe_f h _ hf
theorem sum_take {l : List Nat} {i : Nat} (h : i < l.length) : (l.take (i+1)).sum = (l.take i).sum + l[i] := by
  rw [List.take_succ_eq_append_getElem h, List.sum_append]; simp
theorem sum_take_le {l : List Nat} {i : Nat} : (l.take i).sum ≤ l.sum := by
  conv => rhs; rw [← List.take_append_drop i l, List.sum_append]
  omega
end Go.VC
namespace Go.VC.T07
open Go Go.VC Go.Proofs

set_option maxRecDepth 100000 in
set_option maxHeartbeats 1000000 in
theorem F57 {t : Ty} (hle : Ty.le 4294967295 t) (hpl : t.pts.length ≤ 4294967295) {c0 : Int} {c1 c2 : S} {c3 c4 : D} {K : PV → List Ob → Prop} (ht : tyIs t c0 c1 c2 c3 c4)
    (h : ∀ r, r = encL encTy t.pts → K (.lst 43 r) []) : FC Tryz.prog tt 57 [] [tyPV c0 c1 c2 c3 c4] K := by
  obtain ⟨t0, t1, t2, hc3, hc4⟩ := ht
  have hpl' : t.ar.length + t.fl.length ≤ 4294967295 := by simpa [Ty.pts] using hpl
  refine FC.enter (G := g57) tt_ok mixed ⟨Tryz.func57, by rfl, rfl⟩ rfl rfl rfl ?_
  intro A C L X
  obtain ⟨n_c3, hn_c3⟩ : ∃ n, n = (t.ar).length := ⟨_, rfl⟩
  have hlen_c3 : Std.len c3 = Int.ofNat n_c3 := by rw [hc3, Std_len, hn_c3]; rfl
  obtain ⟨n_c4, hn_c4⟩ : ∃ n, n = (t.fl).length := ⟨_, rfl⟩
  have hlen_c4 : Std.len c4 = Int.ofNat n_c4 := by rw [hc4, Std_len, hn_c4]; rfl
  have hb : A.bnd (A.add (A.len (A.lit [])) (A.len c3)) 4294967296 := by rw [X.a]; simp only [SD, bNot, hlen_c3]; omega
  have q0 : A.app (A.lit []) c3 = encL encTy (t.ar ++ (t.fl.take 0).map Fe.t) := by rw [X.a, hc3]; exact (Std_app (f := encTy) (l := []) (k := t.ar)).trans (by simp)
  cbv
  refine ⟨hb, ?_⟩
  refine X.loopP (fun (y : Nat × D) => ⟨[(4, .int .i64 y.1), (3, .row 43 1), (1, .box 0 0)], [.box [.int .i64 c0, .str c1, .str c2, .lst 43 c3, .lst 105 c4], .row 43 y.2 true]⟩)
    (fun y => y.1 ≤ n_c4 ∧ y.2 = encL encTy (t.ar ++ (t.fl.take y.1).map Fe.t)) (fun y => n_c4 - y.1) (0, A.app (A.lit []) c3) ⟨Nat.zero_le _, q0⟩ ?_ ?_
  · refine ⟨[0, 1], rfl, ?_⟩
    (cbv; repeat' apply And.intro); all_goals (try (first | trivial | rfl | (rw [X.a]; rfl)))
  rintro ⟨i, r⟩ ⟨hi, hr⟩
  simp only at hi hr
  cbv
  refine ⟨fun h1 => ?_, fun h1 => ?_⟩
  · have h5 : i < t.fl.length := by obtain rfl := X.a; simp only [hlen_c4, SD, bNot] at h1; omega
    obtain ⟨k0, k1, k2, k3, k4⟩ := fdTyAt X.a hc4 h5
    have hid : A.idx (Int.ofNat i) (A.len c4) := by rw [X.a, hc4]; exact leaf_idx h5
    have hin : A.inr .i64 (A.add (Int.ofNat i) 1) := by rw [X.a]; exact leaf_inc h5 (by omega)
    have hb2 : A.bnd (A.add (A.len r) (A.len (A.lit [[.int (A.asInt (A.cell c4 (Int.ofNat i) 1)), .str (A.asStr (A.cell c4 (Int.ofNat i) 2)), .str (A.asStr (A.cell c4 (Int.ofNat i) 3)), A.cell c4 (Int.ofNat i) 4, A.cell c4 (Int.ofNat i) 5]]))) 4294967296 := by
      rw [X.a, hr]; simp only [SD, bNot, List.length_map]; omega
    have q1 : A.app r (A.lit [[.int (A.asInt (A.cell c4 (Int.ofNat i) 1)), .str (A.asStr (A.cell c4 (Int.ofNat i) 2)), .str (A.asStr (A.cell c4 (Int.ofNat i) 3)), A.cell c4 (Int.ofNat i) 4, A.cell c4 (Int.ofNat i) 5]]) = encL encTy (t.ar ++ (t.fl.take (i+1)).map Fe.t) := by
      rw [k0, k1, k2, k3, k4, X.a, hr, map_take h5, ← List.append_assoc, ← encTy_eq]
      exact Std_app (k := [t.fl[i].t])
    cbv
    repeat' (first | apply And.intro | exact fun (_ : False → False) => by kernel_rfl | (intro h2; cbv) | apply Or.inl)
    any_goals exact hid
    any_goals exact hb2
    any_goals exact hin
    refine ⟨(i+1, _), ⟨?_, q1⟩, ?_, [0, 1], rfl, ?_⟩
    · simp only; omega
    · simp only; omega
    (cbv; repeat' apply And.intro); all_goals (try (first | trivial | rfl | (rw [X.a]; rfl)))
  have h5 : i = n_c4 := by obtain rfl := X.a; simp only [hlen_c4, SD, bNot] at h1; omega
  subst h5
  rw [hn_c4, List.take_length] at hr
  cbv
  exact h r hr

set_option maxRecDepth 100000 in
set_option maxHeartbeats 1000000 in
theorem F22 : ∀ (t : Ty), Ty.le 4294967295 t → t.size ≤ 4294967295 → ∀ {c0 : Int} {c1 c2 : S} {c3 c4 : D} {K : PV → List Ob → Prop}, tyIs t c0 c1 c2 c3 c4 → (∀ r : Int, r = t.size → K (.int .i64 r) []) → FC Tryz.prog tt 22 [] [tyPV c0 c1 c2 c3 c4] K := by
  refine Ty.pinduct fun t ih => ?_
  intro hle hs c0 c1 c2 c3 c4 K ht h
  obtain ⟨f, hf⟩ : ∃ f : Nat → Nat, f = fun i => ((t.pts.map Ty.size).take i).sum := ⟨_, rfl⟩
  obtain ⟨tot, htot⟩ : ∃ n : Nat, n = (t.pts.map Ty.size).sum := ⟨_, rfl⟩
  have f0 : f 0 = 0 := by rw [hf]; simp
  have fs : ∀ i (h : i < t.pts.length), f (i+1) = f i + t.pts[i].size := fun i h => by
    rw [hf]; simp only
    rw [sum_take (l := t.pts.map Ty.size) (i := i) (by simpa using h), List.getElem_map]
  have fl : ∀ i, f i ≤ tot := fun i => by rw [hf, htot]; exact sum_take_le
  have fn : f t.pts.length = tot := by rw [hf, htot]; simp only; rw [List.take_of_length_le (by simp)]
  have hsz : t.size = 1 + tot := by rw [size_eq, htot]
  rw [hsz] at hs h
  have hpl : t.pts.length ≤ tot := by
    rw [htot]
    have : ∀ l : List Ty, l.length ≤ (l.map Ty.size).sum := by
      intro l
      induction l with
      | nil => simp
      | cons x l ih => simp only [List.length_cons, List.map_cons, List.sum_cons]; have := size_eq x; omega
    exact this _
  refine FC.enter (G := g22) tt_ok mixed ⟨Tryz.func22, by rfl, rfl⟩ rfl rfl rfl ?_
  intro A C L X
  cbv
  refine X.call (F57 hle (by omega) ht fun r hr => ?_)
  obtain ⟨n_r, hn_r⟩ : ∃ n, n = (t.pts).length := ⟨_, rfl⟩
  have hlen_r : Std.len r = Int.ofNat n_r := by rw [hr, Std_len, hn_r]; rfl
  cbv
  refine X.loop (fun (y : Nat × Int) => ⟨[(5, .int .i64 y.1), (3, .int .i64 y.2), (4, .lst 43 r)], []⟩)
    (fun y => y.1 ≤ n_r ∧ y.2 = Int.ofNat (1 + f y.1)) (fun y => n_r - y.1) (0, 1) ⟨Nat.zero_le _, by simp [f0]⟩ ?_ ?_
  · (cbv; repeat' apply And.intro); all_goals (try (first | trivial | rfl | (rw [X.a]; rfl)))
  rintro ⟨i, m⟩ ⟨hi, hm⟩
  simp only at hi hm
  cbv
  refine ⟨fun h1 => ?_, fun h1 => ?_⟩
  · have h5 : i < t.pts.length := by obtain rfl := X.a; simp only [hlen_r, SD, bNot] at h1; omega
    have k1 := tyAt X.a hr h5
    have hid : A.idx (Int.ofNat i) (A.len r) := by rw [X.a, hr]; exact leaf_idx h5
    have hin : A.inr .i64 (A.add (Int.ofNat i) 1) := by rw [X.a]; exact leaf_inc h5 (by omega)
    have hst := fs i h5
    have hsl := fl (i+1)
    cbv
    repeat' (first | apply And.intro | exact fun (_ : False → False) => by kernel_rfl | (intro h2; cbv) | apply Or.inl)
    any_goals exact hid
    refine X.call (ih _ (List.getElem_mem h5) (pts_le hle _ (List.getElem_mem h5)) (by omega) k1 fun z hz => ?_)
    have hz' : z = t.pts[i].size := hz
    clear hz
    have hin2 : A.inr .i64 (A.add m z) := by rw [X.a, Std_inr64, Std_add, hm, hz']; simp only [Int.ofNat_eq_natCast]; omega
    have q : A.add m z = Int.ofNat (1 + f (i+1)) := by rw [X.a, Std_add, hst, hm, hz']; simp only [Int.ofNat_eq_natCast]; omega
    cbv
    repeat' (first | apply And.intro | exact fun (_ : False → False) => by kernel_rfl | (intro h2; cbv) | apply Or.inl)
    any_goals exact hin
    any_goals exact hin2
    refine ⟨(i+1, _), ⟨?_, q⟩, ?_, ?_⟩
    · simp only; omega
    · simp only; omega
    (cbv; repeat' apply And.intro); all_goals (try (first | trivial | rfl | (rw [X.a]; rfl)))
  have h5 : i = n_r := by obtain rfl := X.a; simp only [hlen_r, SD, bNot] at h1; omega
  subst h5
  cbv
  refine h m ?_
  rw [hm, hn_r, fn]; rfl
end Go.VC.T07
end

section
/- The walk over a type's nodes. -/
set_option linter.unusedSimpArgs false
set_option linter.unusedVariables false
namespace Go.VC
mutual
def Ty.uses : Ty → List U | .mk k m n ar fl => (if k = 10 then [(m, n)] else []) ++ (Ty.usess ar ++ Ty.usesf fl)
def Fe.uses : Fe → List U | .mk _ t _ => Ty.uses t
def Ty.usess : List Ty → List U | [] => [] | t :: l => Ty.uses t ++ Ty.usess l
def Ty.usesf : List Fe → List U | [] => [] | t :: l => Fe.uses t ++ Ty.usesf l
end
theorem usess_eq : ∀ l : List Ty, Ty.usess l = l.flatMap Ty.uses
  | [] => by simp [Ty.usess]
  | t :: l => by simp [Ty.usess, usess_eq l]
theorem usesf_eq : ∀ l : List Fe, Ty.usesf l = (l.map Fe.t).flatMap Ty.uses
  | [] => by simp [Ty.usesf]
  | .mk s t b :: l => by simp [Ty.usesf, usesf_eq l, Fe.uses, Fe.t]
def Ty.self (t : Ty) : List U := if t.k = 10 then [(t.m, t.n)] else []
theorem uses_eq (t : Ty) : t.uses = t.self ++ t.pts.flatMap Ty.uses := by
  cases t; simp only [Ty.uses, usess_eq, usesf_eq, Ty.pts, Ty.self, List.flatMap_append, Ty.ar, Ty.fl, Ty.k, Ty.m, Ty.n]; rfl
theorem le_sum {l : List Nat} {x : Nat} (h : x ∈ l) : x ≤ l.sum := by
  induction l with
  | nil => simp at h
  | cons y l ih => rw [List.sum_cons]; rcases List.mem_cons.1 h with rfl | h; omega; have := ih h; omega
theorem flat_take {α β : Type} {f : α → List β} {l : List α} {i : Nat} (h : i < l.length) : (l.take (i+1)).flatMap f = (l.take i).flatMap f ++ f l[i] := by
  rw [take_succ' h, List.flatMap_append]; simp
end Go.VC
namespace Go.VC.T07
open Go Go.VC Go.Proofs

set_option maxRecDepth 100000 in
set_option maxHeartbeats 1000000 in
theorem F116 {t : Ty} (hle : Ty.le 4294967295 t) (hpl : t.pts.length ≤ 4294967295) {c0 : Int} {c1 c2 : S} {c3 c4 : D} {K : PV → List Ob → Prop} (ht : tyIs t c0 c1 c2 c3 c4)
    (h : ∀ r, r = encL encTy t.pts → K (.lst 43 r) []) : FC Tryz.prog tt 116 [] [tyPV c0 c1 c2 c3 c4] K := by
  obtain ⟨t0, t1, t2, hc3, hc4⟩ := ht
  have hpl' : t.ar.length + t.fl.length ≤ 4294967295 := by simpa [Ty.pts] using hpl
  refine FC.enter (G := g116) tt_ok mixed ⟨Tryz.func116, by rfl, rfl⟩ rfl rfl rfl ?_
  intro A C L X
  obtain ⟨n_c4, hn_c4⟩ : ∃ n, n = (t.fl).length := ⟨_, rfl⟩
  have hlen_c4 : Std.len c4 = Int.ofNat n_c4 := by rw [hc4, Std_len, hn_c4]; rfl
  cbv
  refine X.call (F97 hc3 (by omega) fun r1 hr1 => ?_)
  cbv
  refine X.loopP (fun (y : Nat × D) => ⟨[(12, .int .i64 y.1), (11, .int .i64 (A.len c4)), (10, .lst 105 c4), (3, .row 43 1), (1, .box 0 0)], [.box [.int .i64 c0, .str c1, .str c2, .lst 43 c3, .lst 105 c4], .row 43 y.2 true]⟩)
    (fun y => y.1 ≤ n_c4 ∧ y.2 = encL encTy (t.ar ++ (t.fl.take y.1).map Fe.t)) (fun y => n_c4 - y.1) (0, r1) ⟨Nat.zero_le _, by simpa using hr1⟩ ?_ ?_
  · refine ⟨[0, 1], rfl, ?_⟩
    (cbv; repeat' apply And.intro); all_goals (try (first | trivial | rfl | (rw [X.a]; rfl)))
  rintro ⟨i, r⟩ ⟨hi, hr⟩
  simp only at hi hr
  cbv
  refine ⟨fun h1 => ?_, fun h1 => ?_⟩
  · have h5 : i < t.fl.length := by obtain rfl := X.a; simp only [hlen_c4, SD, bNot] at h1; omega
    obtain ⟨k0, k1, k2, k3, k4⟩ := fdTyAt X.a hc4 h5
    have hid : A.idx (Int.ofNat i) (A.len c4) := by rw [X.a, hc4]; exact leaf_idx h5
    have hin : A.inr .i64 (A.add (Int.ofNat i) 1) := by rw [X.a]; exact leaf_inc h5 (by omega)
    have hb2 : A.bnd (A.add (A.len r) (A.len (A.lit [[.int (A.asInt (A.cell c4 (Int.ofNat i) 1)), .str (A.asStr (A.cell c4 (Int.ofNat i) 2)), .str (A.asStr (A.cell c4 (Int.ofNat i) 3)), A.cell c4 (Int.ofNat i) 4, A.cell c4 (Int.ofNat i) 5]]))) 4294967296 := by
      rw [X.a, hr]; simp only [SD, bNot, List.length_map]; omega
    have q1 : A.app r (A.lit [[.int (A.asInt (A.cell c4 (Int.ofNat i) 1)), .str (A.asStr (A.cell c4 (Int.ofNat i) 2)), .str (A.asStr (A.cell c4 (Int.ofNat i) 3)), A.cell c4 (Int.ofNat i) 4, A.cell c4 (Int.ofNat i) 5]]) = encL encTy (t.ar ++ (t.fl.take (i+1)).map Fe.t) := by
      rw [k0, k1, k2, k3, k4, X.a, hr, map_take h5, ← List.append_assoc, ← encTy_eq]
      exact Std_app (k := [t.fl[i].t])
    cbv
    repeat' (first | apply And.intro | exact fun (_ : False → False) => by kernel_rfl | (intro h2; cbv) | apply Or.inl)
    any_goals exact hid
    any_goals exact hb2
    any_goals exact hin
    refine ⟨(i+1, _), ⟨?_, q1⟩, ?_, [0, 1], rfl, ?_⟩
    · simp only; omega
    · simp only; omega
    (cbv; repeat' apply And.intro); all_goals (try (first | trivial | rfl | (rw [X.a]; rfl)))
  have h5 : i = n_c4 := by obtain rfl := X.a; simp only [hlen_c4, SD, bNot] at h1; omega
  subst h5
  rw [hn_c4, List.take_length] at hr
  cbv
  exact h r hr

set_option maxRecDepth 100000 in
theorem F89 {c0 : Int} {c1 c2 : S} {c3 c4 : D} {K : PV → List Ob → Prop} (h : K (.clos 114 [.pptr [.int .i64 c0, .str c1, .str c2, .lst 43 c3, .lst 105 c4] 0]) []) : FC Tryz.prog tt 89 [] [tyPV c0 c1 c2 c3 c4] K := by
  refine FC.enter (G := g89) tt_ok mixed ⟨Tryz.func89, by rfl, rfl⟩ rfl rfl rfl ?_
  intro A C L X
  cbv
  exact h

set_option maxRecDepth 100000 in
set_option maxHeartbeats 2000000 in
theorem F115 {C1 C2 : Code}
    (hy : ∀ (t : Ty) (m : List (U × Bool)) (d : D) (c0 : Int) (c1 c2 : S) (c3 c4 : D) (K' : PV → List Ob → Prop), tyIs t c0 c1 c2 c3 c4 → d = encL encUB m → (∀ r, r = encL encUB (addUs m t.self) → K' (.bl true) [.loop 21 [8] C1 C2 [(3, .box 1 0)] .ready, .box [.mp 2], .map .str2 4 r]) → YC Tryz.prog tt [.loop 21 [8] C1 C2 [(3, .box 1 0)] .ready, .box [.mp 2], .map .str2 4 d] [tyPV c0 c1 c2 c3 c4] K') :
    ∀ (t : Ty), Ty.le 4294967295 t → t.size ≤ 4294967295 → ∀ {m : List (U × Bool)} {d : D} {c0 : Int} {c1 c2 : S} {c3 c4 : D} {K : PV → List Ob → Prop}, tyIs t c0 c1 c2 c3 c4 → d = encL encUB m →
      (∀ r, r = encL encUB (addUs m t.uses) → K (.bool true) [.box [.yld 2], .box [.clos 115 [.box 0 0, .box 1 0]], .loop 21 [8] C1 C2 [(3, .box 3 0)] .ready, .box [.mp 4], .map .str2 4 r]) →
      FC Tryz.prog tt 115 [.box [.yld 2], .box [.clos 115 [.box 0 0, .box 1 0]], .loop 21 [8] C1 C2 [(3, .box 3 0)] .ready, .box [.mp 4], .map .str2 4 d] [tyPV c0 c1 c2 c3 c4, .box 0 0, .box 1 0] K := by
  refine Ty.pinduct fun t ih => ?_
  intro hle hs m d c0 c1 c2 c3 c4 K ht hd h
  have hszs : ∀ u ∈ t.pts, u.size ≤ 4294967295 := by
    intro u hu
    have := size_eq t
    have h2 : u.size ≤ (t.pts.map Ty.size).sum := le_sum (List.mem_map.2 ⟨u, hu, rfl⟩)
    omega
  have hpl : t.pts.length ≤ 4294967295 := by
    have : ∀ l : List Ty, l.length ≤ (l.map Ty.size).sum := by
      intro l
      induction l with
      | nil => simp
      | cons x l ih => simp only [List.length_cons, List.map_cons, List.sum_cons]; have := size_eq x; omega
    have h1 := this t.pts
    have h2 := size_eq t
    omega
  refine FC.enterLive (G := g115) tt_ok mixed ⟨Tryz.func115, by rfl, rfl⟩ rfl rfl rfl ?_
  intro A C L X
  cbv
  refine X.round (hy t m d _ _ _ _ _ _ ht hd fun r1 hr1 => ?_)
  cbv
  refine X.call (F116 hle hpl ht fun rp hrp => ?_)
  obtain ⟨n_rp, hn_rp⟩ : ∃ n, n = (t.pts).length := ⟨_, rfl⟩
  have hlen_rp : Std.len rp = Int.ofNat n_rp := by rw [hrp, Std_len, hn_rp]; rfl
  cbv
  refine X.loopP (fun (y : Nat × D) => ⟨[(14, .int .i64 y.1), (13, .int .i64 (A.len rp)), (12, .lst 43 rp), (1, .box 0 0), (2, .box 1 0)], [.box [.yld 2], .box [.clos 115 [.box 0 0, .box 1 0]], .loop 21 [8] C1 C2 [(3, .box 3 0)] .ready, .box [.mp 4], .map .str2 4 y.2]⟩)
    (fun y => y.1 ≤ n_rp ∧ y.2 = encL encUB (addUs (addUs m t.self) ((t.pts.take y.1).flatMap Ty.uses))) (fun y => n_rp - y.1) (0, r1) ⟨Nat.zero_le _, by simpa [addUs] using hr1⟩ ?_ ?_
  · refine ⟨[0, 1, 2, 3, 4], rfl, ?_⟩
    (cbv; repeat' apply And.intro); all_goals (try (first | trivial | rfl | (rw [X.a]; rfl)))
  rintro ⟨i, r⟩ ⟨hi, hr⟩
  simp only at hi hr
  cbv
  refine ⟨fun h1 => ?_, fun h1 => ?_⟩
  · have h5 : i < t.pts.length := by obtain rfl := X.a; simp only [hlen_rp, SD, bNot] at h1; omega
    have k1 := tyAt X.a hrp h5
    have hid : A.idx (Int.ofNat i) (A.len rp) := by rw [X.a, hrp]; exact leaf_idx h5
    have hin : A.inr .i64 (A.add (Int.ofNat i) 1) := by rw [X.a]; exact leaf_inc h5 (by omega)
    cbv
    repeat' (first | apply And.intro | exact fun (_ : False → False) => by kernel_rfl | (intro h2; cbv) | apply Or.inl)
    any_goals exact hid
    refine X.call (ih _ (List.getElem_mem h5) (pts_le hle _ (List.getElem_mem h5)) (hszs _ (List.getElem_mem h5)) k1 hr fun r' hr' => ?_)
    cbv
    repeat' (first | apply And.intro | exact fun (_ : False → False) => by kernel_rfl | (intro h2; cbv) | apply Or.inl)
    any_goals exact hin
    · exfalso; obtain rfl := X.a; simp [Std_not] at h2
    refine ⟨(i+1, r'), ⟨?_, ?_⟩, ?_, [0, 1, 2, 3, 4], rfl, ?_⟩
    · simp only; omega
    · simp only; rw [hr', flat_take h5, addUs_app]
    · simp only; omega
    (cbv; repeat' apply And.intro); all_goals (try (first | trivial | rfl | (rw [X.a]; rfl)))
  have h5 : i = n_rp := by obtain rfl := X.a; simp only [hlen_rp, SD, bNot] at h1; omega
  subst h5
  rw [hn_rp, List.take_length] at hr
  cbv
  refine h r ?_
  rw [hr, uses_eq, addUs_app]

set_option maxRecDepth 100000 in
set_option maxHeartbeats 2000000 in
theorem F114 {C1 C2 : Code} {t : Ty} (hle : Ty.le 4294967295 t) (hs : t.size ≤ 4294967295) {m : List (U × Bool)} {d : D} {c0 : Int} {c1 c2 : S} {c3 c4 : D} {K : PV → List Ob → Prop} (ht : tyIs t c0 c1 c2 c3 c4) (hd : d = encL encUB m)
    (hy : ∀ (t : Ty) (m : List (U × Bool)) (d : D) (c0 : Int) (c1 c2 : S) (c3 c4 : D) (K' : PV → List Ob → Prop), tyIs t c0 c1 c2 c3 c4 → d = encL encUB m → (∀ r, r = encL encUB (addUs m t.self) → K' (.bl true) [.loop 21 [8] C1 C2 [(3, .box 1 0)] .ready, .box [.mp 2], .map .str2 4 r]) → YC Tryz.prog tt [.loop 21 [8] C1 C2 [(3, .box 1 0)] .ready, .box [.mp 2], .map .str2 4 d] [tyPV c0 c1 c2 c3 c4] K')
    (h : ∀ r, r = encL encUB (addUs m t.uses) → K (.tup []) [.loop 21 [8] C1 C2 [(3, .box 1 0)] .ready, .box [.mp 2], .map .str2 4 r]) :
    FC Tryz.prog tt 114 [.loop 21 [8] C1 C2 [(3, .box 1 0)] .ready, .box [.mp 2], .map .str2 4 d] [.yld 0, .pptr [.int .i64 c0, .str c1, .str c2, .lst 43 c3, .lst 105 c4] 0] K := by
  refine FC.enterLive (G := g114) tt_ok mixed ⟨Tryz.func114, by rfl, rfl⟩ rfl rfl rfl ?_
  intro A C L X
  cbv
  refine X.call (F115 hy t hle hs ht hd fun r hr => ?_)
  cbv
  exact h r hr
end Go.VC.T07
end

section
/- The types that a type mentions. -/
set_option linter.unusedSimpArgs false
set_option linter.unusedVariables false
namespace Go.VC
/-- the size of a type bounds its uses -/
theorem uses_len : ∀ t : Ty, t.uses.length ≤ t.size := by
  refine Ty.pinduct fun t ih => ?_
  rw [uses_eq, size_eq, List.length_append]
  have h1 : t.self.length ≤ 1 := by unfold Ty.self; split <;> simp
  have h2 : ∀ l : List Ty, (∀ u ∈ l, u.uses.length ≤ u.size) → (l.flatMap Ty.uses).length ≤ (l.map Ty.size).sum := by
    intro l
    induction l with
    | nil => simp
    | cons x l ihl =>
      intro h
      simp only [List.flatMap_cons, List.length_append, List.map_cons, List.sum_cons]
      have a := h x (by simp)
      have b := ihl fun u hu => h u (by simp [hu])
      omega
  have := h2 _ ih
  omega
theorem SrtU_nodup {l : List U} (h : SrtU l) : l.Nodup := by
  unfold SrtU at h
  exact h.imp fun {a b} hab e => by rw [e, ltU_irrefl] at hab; cases hab
theorem nodup_sub_len {α : Type} [DecidableEq α] : ∀ {l m : List α}, l.Nodup → (∀ x ∈ l, x ∈ m) → l.length ≤ m.length
  | [], m, _, _ => by simp
  | x :: l, m, h, hs => by
    rw [List.nodup_cons] at h
    have := nodup_sub_len (l := l) (m := m.erase x) h.2 fun y hy => by
      have hm := hs y (by simp [hy])
      have hne : y ≠ x := fun e => h.1 (by rw [← e]; exact hy)
      exact (List.mem_erase_of_ne hne).2 hm
    have hx := hs x (by simp)
    rw [List.length_erase_of_mem hx] at this
    have h0 : 0 < m.length := List.length_pos_of_mem hx
    simp only [List.length_cons]; omega
end Go.VC
namespace Go.VC.T07
open Go Go.VC Go.Proofs

set_option maxRecDepth 100000 in
set_option maxHeartbeats 2000000 in
theorem F54 {t : Ty} (hle : Ty.le 4294967295 t) (hs : t.size ≤ 4294967295) {c0 : Int} {c1 c2 : S} {c3 c4 : D} {K : PV → List Ob → Prop} (ht : tyIs t c0 c1 c2 c3 c4)
    (h : ∀ (l : List U) r, r = encL encU l → SrtU l → (∀ u, u ∈ l ↔ u ∈ t.uses) → K (.lst 99 r) []) : FC Tryz.prog tt 54 [] [tyPV c0 c1 c2 c3 c4] K := by
  have hul := uses_len t
  refine FC.enter (G := g54) tt_ok mixed ⟨Tryz.func54, by rfl, rfl⟩ rfl rfl rfl ?_
  intro A C L X
  cbv
  refine X.call (F89 ?_)
  cbv
  refine X.range rfl ⟨Tryz.func114, by rfl, rfl⟩ rfl [(3, .box 2 0)] ?_ ?_
  · cbv
  cbv
  refine X.call (F114 (m := []) hle hs ht rfl ?_ ?_)
  · intro u m d b0 b1 b2 b3 b4 K' hu hd hK
    obtain ⟨u0, u1, u2, u3, u4⟩ := hu
    refine YC.enter (G := g54r) tt_ok mixed rfl rfl rfl rfl rfl ?_
    intro A C L X
    have q1 : A.mset d (.ptr [.str b1, .str b2]) [.bool true] = encL encUB (addUs m [(u.m, u.n)]) := by rw [X.a, hd, u1, u2]; exact Std_addU (k := (u.m, u.n))
    have qt : u.k = 10 → K' (.bl true) [.loop 21 [8] _ _ [(3, .box 1 0)] .ready, .box [.mp 2], .map .str2 4 (A.mset d (.ptr [.str b1, .str b2]) [.bool true])] := fun e => hK _ (by rw [q1, Ty.self, if_pos e])
    have qf : ¬ u.k = 10 → K' (.bl true) [.loop 21 [8] _ _ [(3, .box 1 0)] .ready, .box [.mp 2], .map .str2 4 d] := fun e => hK _ (by rw [hd, Ty.self, if_neg e]; rfl)
    cbv
    repeat' (first | apply And.intro | exact fun (_ : False → False) => by kernel_rfl | (intro h2; cbv) | apply Or.inl)
    · exact qt (by rw [← u0]; obtain rfl := X.a; simpa only [SD, bNot] using h2)
    · exact qf (by rw [← u0]; obtain rfl := X.a; simpa only [SD, bNot] using h2)
  · intro r hr
    cbv
    refine X.call (F91 ?_)
    cbv
    refine X.call (F90 hr ?_ ?_ fun l r' hr' hsr hm => ?_)
    · have := addUs_len (l := t.uses) (m := []); simp at this; omega
    · exact addUs_nodup (by simp)
    cbv
    refine h l r' hr' hsr fun s => ?_
    rw [hm, addUs_keys]; simp
end Go.VC.T07
end

section
/- environ.Mentions. -/
set_option linter.unusedSimpArgs false
set_option linter.unusedVariables false
namespace Go.VC
def Pm.wt (p : Pm) : Nat := 1 + p.bound.size
def TE.wt (x : TE) : Nat := 1 + (x.params.map Pm.wt).sum + x.lower.size + x.upper.size
def VE.wt (x : VE) : Nat := 1 + (x.params.map Pm.wt).sum + x.ty.size
def IF.wt (x : IF) : Nat := 1 + (x.types.map TE.wt).sum + (x.values.map VE.wt).sum + x.aliases.length + x.deprecated.length
theorem wt_mem {α : Type} {f : α → Nat} {l : List α} {x : α} (h : x ∈ l) : f x ≤ (l.map f).sum := le_sum (List.mem_map.2 ⟨x, h, rfl⟩)
def tyMods (t : Ty) : List S := t.uses.map (·.1)
def pmMods (l : List Pm) : List S := l.flatMap fun p => tyMods p.bound
def teMods (x : TE) : List S := pmMods x.params ++ tyMods x.lower ++ tyMods x.upper
def veMods (x : VE) : List S := pmMods x.params ++ tyMods x.ty
def mentL (x : IF) : List S := x.types.flatMap teMods ++ x.values.flatMap veMods ++ x.aliases.map (·.module)
theorem tyMods_len (t : Ty) : (tyMods t).length ≤ t.size := by unfold tyMods; rw [List.length_map]; exact uses_len t
theorem flat_len {α β : Type} {f : α → List β} {g : α → Nat} : ∀ {l : List α}, (∀ x ∈ l, (f x).length ≤ g x) → (l.flatMap f).length ≤ (l.map g).sum
  | [], _ => by simp
  | x :: l, h => by
    have a := h x (by simp)
    have b := flat_len (l := l) (f := f) (g := g) fun y hy => h y (by simp [hy])
    simp only [List.flatMap_cons, List.length_append, List.map_cons, List.sum_cons]; omega
theorem pmMods_len (l : List Pm) : (pmMods l).length ≤ (l.map Pm.wt).sum := flat_len fun p _ => by have := tyMods_len p.bound; unfold Pm.wt; omega
theorem mentL_len (x : IF) : (mentL x).length ≤ x.wt := by
  have a := flat_len (l := x.types) (f := teMods) (g := TE.wt) fun y _ => by
    have := pmMods_len y.params; have := tyMods_len y.lower; have := tyMods_len y.upper
    simp only [teMods, List.length_append, TE.wt]; omega
  have b := flat_len (l := x.values) (f := veMods) (g := VE.wt) fun y _ => by
    have := pmMods_len y.params; have := tyMods_len y.ty
    simp only [veMods, List.length_append, VE.wt]; omega
  simp only [mentL, List.length_append, List.length_map, IF.wt]; omega
/-- the keys of a set -/
def SetIs (m : List (S × Bool)) (L : List S) : Prop := (m.map (·.1)).Nodup ∧ ∀ s, s ∈ m.map (·.1) ↔ s ∈ L
theorem SetIs.nil : SetIs [] [] := ⟨by simp, by simp⟩
theorem SetIs.add {m : List (S × Bool)} {L : List S} (h : SetIs m L) (l : List S) : SetIs (addKs m l) (L ++ l) :=
  ⟨addKs_nodup h.1, fun s => by rw [addKs_keys, h.2, List.mem_append]; exact Or.comm⟩
theorem SetIs.of {m : List (S × Bool)} {L L' : List S} (h : SetIs m L) (e : ∀ s, s ∈ L ↔ s ∈ L') : SetIs m L' := ⟨h.1, fun s => by rw [h.2, e]⟩
theorem SetIs.len {m : List (S × Bool)} {L : List S} (h : SetIs m L) : m.length ≤ L.length := by
  have := nodup_sub_len h.1 (m := L) fun s hs => (h.2 s).1 hs
  simpa using this
def delK (m : List (S × Bool)) (k : S) : List (S × Bool) := m.eraseP fun x => k == x.1
theorem Std_delK {m : List (S × Bool)} {k : S} : Std.mdel (encL encKB m) (.str k) = encL encKB (delK m k) := by
  simp only [Std, std, encL, rowsD, delK]
  congr 1
  rw [List.eraseP_map]
  rfl
theorem SetIs.del {m : List (S × Bool)} {L : List S} (h : SetIs m L) (k : S) : SetIs (delK m k) (L.filter fun s => s != k) := by
  obtain ⟨h1, h2⟩ := h
  have key : ∀ m : List (S × Bool), (m.map (·.1)).Nodup → ((delK m k).map (·.1)).Nodup ∧ ∀ s, s ∈ (delK m k).map (·.1) ↔ s ∈ m.map (·.1) ∧ s ≠ k := by
    intro m hn
    refine ⟨hn.sublist (List.Sublist.map _ List.eraseP_sublist), ?_⟩
    induction m with
    | nil => simp [delK]
    | cons x m ih =>
      rw [List.map_cons, List.nodup_cons] at hn
      intro s
      by_cases hk : k = x.1
      · have e : delK (x :: m) k = m := by unfold delK; rw [List.eraseP_cons_of_pos (by simp [hk])]
        rw [e]
        constructor
        · intro hs; exact ⟨by simp only [List.map_cons, List.mem_cons]; exact .inr hs, fun e => hn.1 (by rw [← hk, ← e]; exact hs)⟩
        · rintro ⟨hs, hne⟩
          rcases List.mem_cons.1 (by simpa only [List.map_cons] using hs) with e | e
          · exact absurd (e.trans hk.symm) hne
          · exact e
      · have e : delK (x :: m) k = x :: delK m k := by unfold delK; rw [List.eraseP_cons_of_neg (by simpa using hk)]
        rw [e, List.map_cons, List.mem_cons, ih hn.2, List.map_cons, List.mem_cons]
        constructor
        · rintro (h | ⟨h, h'⟩)
          · exact ⟨.inl h, fun e => hk (e.symm.trans h)⟩
          · exact ⟨.inr h, h'⟩
        · rintro ⟨h | h, h'⟩
          · exact .inl h
          · exact .inr ⟨h, h'⟩
  obtain ⟨k1, k2⟩ := key m h1
  exact ⟨k1, fun s => by rw [k2, h2, List.mem_filter]; simp⟩
end Go.VC
namespace Go.VC.T07
open Go Go.VC Go.Proofs
theorem uAt {A : Alg} {d : D} {i : Nat} {l : List U} (ha : A = Std) (hd : d = encL encU l) (h : i < l.length) : A.asStr (A.cell d (Int.ofNat i) 0) = l[i].1 ∧ A.asStr (A.cell d (Int.ofNat i) 1) = l[i].2 := by
  simp only [cellAt ha hd h]; subst ha; exact ⟨rfl, rfl⟩

set_option maxRecDepth 100000 in
set_option maxHeartbeats 1000000 in
theorem F53 {t : Ty} (hle : Ty.le 4294967295 t) (hs : t.size ≤ 4294967295) {m : List (S × Bool)} {ls : List S} {d : D} {c0 : Int} {c1 c2 : S} {c3 c4 : D} {K : PV → List Ob → Prop} (ht : tyIs t c0 c1 c2 c3 c4) (hd : d = encL encKB m) (hm : SetIs m ls)
    (h : ∀ m' r, r = encL encKB m' → SetIs m' (ls ++ tyMods t) → K (.tup []) [.box [.mp 1], .map .str 4 r]) : FC Tryz.prog tt 53 [.box [.mp 1], .map .str 4 d] [tyPV c0 c1 c2 c3 c4, .box 0 0] K := by
  have hul := uses_len t
  refine FC.enterLive (G := g53) tt_ok mixed ⟨Tryz.func53, by rfl, rfl⟩ rfl rfl rfl ?_
  intro A C L X
  cbv
  refine X.call (F54 hle hs ht fun l rl hrl hsl hml => ?_)
  have hll : l.length ≤ t.uses.length := nodup_sub_len (SrtU_nodup hsl) fun u hu => (hml u).1 hu
  obtain ⟨n_rl, hn_rl⟩ : ∃ n, n = (l).length := ⟨_, rfl⟩
  have hlen_rl : Std.len rl = Int.ofNat n_rl := by rw [hrl, Std_len, hn_rl]; rfl
  cbv
  refine X.loop (fun (y : Nat × D) => ⟨[(8, .int .i64 y.1), (7, .int .i64 (A.len rl)), (6, .lst 99 rl), (1, .box 0 0)], [.box [.mp 1], .map .str 4 y.2]⟩)
    (fun y => y.1 ≤ n_rl ∧ y.2 = encL encKB (addKs m ((l.take y.1).map (·.1)))) (fun y => n_rl - y.1) (0, d) ⟨Nat.zero_le _, by simpa [addKs] using hd⟩ ?_ ?_
  · (cbv; repeat' apply And.intro); all_goals (try (first | trivial | rfl | (rw [X.a]; rfl)))
  rintro ⟨i, r⟩ ⟨hi, hr⟩
  simp only at hi hr
  cbv
  refine ⟨fun h1 => ?_, fun h1 => ?_⟩
  · have h5 : i < l.length := by obtain rfl := X.a; simp only [hlen_rl, SD, bNot] at h1; omega
    have k1 := (uAt X.a hrl h5).1
    have hid : A.idx (Int.ofNat i) (A.len rl) := by rw [X.a, hrl]; exact leaf_idx h5
    have hin : A.inr .i64 (A.add (Int.ofNat i) 1) := by rw [X.a]; exact leaf_inc h5 (by omega)
    have q1 : A.mset r (.str (A.asStr (A.cell rl (Int.ofNat i) 0))) [.bool true] = encL encKB (addKs m ((l.take (i+1)).map (·.1))) := by
      rw [k1, X.a, hr, Std_addK, map_take h5, addKs_snoc]
    cbv
    repeat' (first | apply And.intro | exact fun (_ : False → False) => by kernel_rfl | (intro h2; cbv) | apply Or.inl)
    any_goals exact hid
    any_goals exact hin
    refine ⟨(i+1, _), ⟨?_, q1⟩, ?_, ?_⟩
    · simp only; omega
    · simp only; omega
    (cbv; repeat' apply And.intro); all_goals (try (first | trivial | rfl | (rw [X.a]; rfl)))
  have h5 : i = n_rl := by obtain rfl := X.a; simp only [hlen_rl, SD, bNot] at h1; omega
  subst h5
  rw [hn_rl, List.take_length] at hr
  cbv
  refine h _ r hr ((hm.add (l.map (·.1))).of fun s => ?_)
  simp only [List.mem_append, tyMods, List.mem_map]
  constructor
  · rintro (h | ⟨u, hu, e⟩)
    · exact .inl h
    · exact .inr ⟨u, (hml u).1 hu, e⟩
  · rintro (h | ⟨u, hu, e⟩)
    · exact .inl h
    · exact .inr ⟨u, (hml u).2 hu, e⟩

set_option maxRecDepth 100000 in
set_option maxHeartbeats 1000000 in
theorem F55 {l : List Pm} (hl : l.length ≤ 4294967295) (hok : ∀ p ∈ l, p.ok) (hsz : ∀ p ∈ l, p.bound.size ≤ 4294967295) {m : List (S × Bool)} {ls : List S} {d dl : D} {K : PV → List Ob → Prop} (hdl : dl = encL encPm l) (hd : d = encL encKB m) (hm : SetIs m ls)
    (h : ∀ m' r, r = encL encKB m' → SetIs m' (ls ++ pmMods l) → K (.tup []) [.box [.clos 53 [.box 1 0]], .box [.mp 2], .map .str 4 r]) : FC Tryz.prog tt 55 [.box [.clos 53 [.box 1 0]], .box [.mp 2], .map .str 4 d] [.lst 62 dl, .box 0 0] K := by
  refine FC.enterLive (G := g55) tt_ok mixed ⟨Tryz.func55, by rfl, rfl⟩ rfl rfl rfl ?_
  intro A C L X
  obtain ⟨n_dl, hn_dl⟩ : ∃ n, n = (l).length := ⟨_, rfl⟩
  have hlen_dl : Std.len dl = Int.ofNat n_dl := by rw [hdl, Std_len, hn_dl]; rfl
  cbv
  refine X.loop (fun (y : Nat × D × List (S × Bool)) => ⟨[(7, .int .i64 y.1), (6, .int .i64 (A.len dl)), (5, .lst 62 dl), (1, .box 0 0)], [.box [.clos 53 [.box 1 0]], .box [.mp 2], .map .str 4 y.2.1]⟩)
    (fun y => y.1 ≤ n_dl ∧ y.2.1 = encL encKB y.2.2 ∧ SetIs y.2.2 (ls ++ pmMods (l.take y.1))) (fun y => n_dl - y.1) (0, d, m) ⟨Nat.zero_le _, hd, by simpa [pmMods] using hm⟩ ?_ ?_
  · (cbv; repeat' apply And.intro); all_goals (try (first | trivial | rfl | (rw [X.a]; rfl)))
  rintro ⟨i, r, m1⟩ ⟨hi, hr, hs1⟩
  simp only at hi hr hs1
  cbv
  refine ⟨fun h1 => ?_, fun h1 => ?_⟩
  · have h5 : i < l.length := by obtain rfl := X.a; simp only [hlen_dl, SD, bNot] at h1; omega
    have k1 := pmTyAt X.a hdl h5
    have hid : A.idx (Int.ofNat i) (A.len dl) := by rw [X.a, hdl]; exact leaf_idx h5
    have hin : A.inr .i64 (A.add (Int.ofNat i) 1) := by rw [X.a]; exact leaf_inc h5 (by omega)
    cbv
    repeat' (first | apply And.intro | exact fun (_ : False → False) => by kernel_rfl | (intro h2; cbv) | apply Or.inl)
    any_goals exact hid
    refine X.call (F53 (hok _ (List.getElem_mem h5)) (hsz _ (List.getElem_mem h5)) k1 hr hs1 fun m2 r2 hr2 hs2 => ?_)
    cbv
    repeat' (first | apply And.intro | exact fun (_ : False → False) => by kernel_rfl | (intro h2; cbv) | apply Or.inl)
    any_goals exact hin
    refine ⟨(i+1, r2, m2), ⟨?_, hr2, ?_⟩, ?_, ?_⟩
    · simp only; omega
    · simp only [pmMods] at hs2 ⊢; rw [flat_take h5, ← List.append_assoc]; exact hs2
    · simp only; omega
    (cbv; repeat' apply And.intro); all_goals (try (first | trivial | rfl | (rw [X.a]; rfl)))
  have h5 : i = n_dl := by obtain rfl := X.a; simp only [hlen_dl, SD, bNot] at h1; omega
  subst h5
  rw [hn_dl, List.take_length] at hs1
  cbv
  exact h _ r hr hs1
end Go.VC.T07
end

section
/- The reference's Exports. -/
set_option linter.unusedSimpArgs false
set_option linter.unusedVariables false
namespace Go.VC
def insA (a l : List S) : List S := l.foldl (fun a s => insS s a) a
theorem insA_snoc {a l : List S} {s : S} : insA a (l ++ [s]) = insS s (insA a l) := by unfold insA; rw [List.foldl_append]; rfl
theorem insA_app {a l m : List S} : insA a (l ++ m) = insA (insA a l) m := by unfold insA; rw [List.foldl_append]
theorem insA_len {l : List S} : (insA [] l).length ≤ l.length := by
  have key : ∀ (l : List S) (a : List S), (insA a l).length ≤ a.length + l.length := by
    intro l
    induction l with
    | nil => intro a; simp [insA]
    | cons x l ih =>
      intro a
      have := ih (insS x a)
      have h1 := insS_len (s := x) (l := a)
      show (insA (insS x a) l).length ≤ _
      simp only [List.length_cons]; omega
  have := key l []
  simpa using this
end Go.VC
namespace Go.VC.T07
open Go Go.VC Go.Proofs
theorem F52c {l : List S} {s c : S} {d : D} {K : PV → List Ob → Prop} (hs : c = s) (hd : d = encL encS l) (hl : l.length ≤ 4294967290) (h : ∀ r, r = encL encS (insS s l) → K (.lst 9 r) []) :
    FC Tryz.prog tt 52 [] [.lst 9 d, .str c] K := by
  subst hs; exact F52 hd hl h
set_option maxRecDepth 100000 in
set_option maxHeartbeats 2000000 in
theorem F19 {x : IF} {c0 : S} {c1 c2 c3 c4 : D} {K : PV → List Ob → Prop} (hx : ifIs x c0 c1 c2 c3 c4) (hw : x.types.length + x.values.length + x.aliases.length ≤ 4294967290)
    (h : ∀ r, r = encL encS (sortS (namesL x)) → K (.lst 9 r) []) : FC Tryz.prog tt 19 [] [ifPV c0 c1 c2 c3 c4] K := by
  obtain ⟨x0, hc1, hc2, hc3, hc4⟩ := hx
  refine FC.enter (G := g19) tt_ok mixed ⟨Tryz.func19, by rfl, rfl⟩ rfl rfl rfl ?_
  intro A C L X
  obtain ⟨n_c1, hn_c1⟩ : ∃ n, n = (x.types).length := ⟨_, rfl⟩
  have hlen_c1 : Std.len c1 = Int.ofNat n_c1 := by rw [hc1, Std_len, hn_c1]; rfl
  obtain ⟨n_c2, hn_c2⟩ : ∃ n, n = (x.values).length := ⟨_, rfl⟩
  have hlen_c2 : Std.len c2 = Int.ofNat n_c2 := by rw [hc2, Std_len, hn_c2]; rfl
  obtain ⟨n_c3, hn_c3⟩ : ∃ n, n = (x.aliases).length := ⟨_, rfl⟩
  have hlen_c3 : Std.len c3 = Int.ofNat n_c3 := by rw [hc3, Std_len, hn_c3]; rfl
  cbv
  refine X.loop (fun (y : Nat × D) => ⟨[(4, .int .i64 y.1), (3, .lst 9 y.2), (1, .box 0 0)], [.box [.str c0, .lst 58 c1, .lst 76 c2, .lst 72 c3, .lst 87 c4]]⟩)
    (fun y => y.1 ≤ n_c1 ∧ y.2 = encL encS (insA [] (((x.types.take y.1).map (·.name))))) (fun y => n_c1 - y.1) (0, A.lit []) ⟨Nat.zero_le _, by rw [X.a]; rfl⟩ ?_ ?_
  · (cbv; repeat' apply And.intro); all_goals (try (first | trivial | rfl | (rw [X.a]; rfl)))
  rintro ⟨i, r⟩ ⟨hi, hr⟩
  simp only at hi hr
  cbv
  refine ⟨fun h1 => ?_, fun h1 => ?_⟩
  · have h5 : i < x.types.length := by obtain rfl := X.a; simp only [hlen_c1, SD, bNot] at h1; omega
    have k1 := (teAt X.a hc1 h5).1
    have hid : A.idx (Int.ofNat i) (A.len c1) := by rw [X.a, hc1]; exact leaf_idx h5
    have hin : A.inr .i64 (A.add (Int.ofNat i) 1) := by rw [X.a]; exact leaf_inc h5 (by omega)
    have hl := insA_len (l := (x.types.take i).map (·.name))
    simp only [List.length_append, List.length_map, List.length_take] at hl
    cbv
    repeat' (first | apply And.intro | exact fun (_ : False → False) => by kernel_rfl | (intro h2; cbv) | apply Or.inl)
    any_goals exact hid
    refine X.call (F52c k1 hr (by omega) fun r' hr' => ?_)
    have q1 : r' = encL encS (insA [] (((x.types.take (i+1)).map (·.name)))) := by rw [hr', map_take h5, insA_snoc]
    cbv
    repeat' (first | apply And.intro | exact fun (_ : False → False) => by kernel_rfl | (intro h2; cbv) | apply Or.inl)
    any_goals exact hin
    refine ⟨(i+1, r'), ⟨?_, q1⟩, ?_, ?_⟩
    · simp only; omega
    · simp only; omega
    (cbv; repeat' apply And.intro); all_goals (try (first | trivial | rfl | (rw [X.a]; rfl)))
  have h5 : i = n_c1 := by obtain rfl := X.a; simp only [hlen_c1, SD, bNot] at h1; omega
  subst h5
  rw [hn_c1, List.take_length] at hr
  clear h1 hi
  cbv
  refine X.loop (fun (y : Nat × D) => ⟨[(5, .int .i64 y.1), (3, .lst 9 y.2), (1, .box 0 0)], [.box [.str c0, .lst 58 c1, .lst 76 c2, .lst 72 c3, .lst 87 c4]]⟩)
    (fun y => y.1 ≤ n_c2 ∧ y.2 = encL encS (insA [] (x.types.map (·.name) ++ ((x.values.take y.1).map (·.name))))) (fun y => n_c2 - y.1) (0, r) ⟨Nat.zero_le _, by simpa using hr⟩ ?_ ?_
  · (cbv; repeat' apply And.intro); all_goals (try (first | trivial | rfl | (rw [X.a]; rfl)))
  rintro ⟨i, r⟩ ⟨hi, hr⟩
  simp only at hi hr
  cbv
  refine ⟨fun h1 => ?_, fun h1 => ?_⟩
  · have h5 : i < x.values.length := by obtain rfl := X.a; simp only [hlen_c2, SD, bNot] at h1; omega
    have k1 := (veAt X.a hc2 h5).1
    have hid : A.idx (Int.ofNat i) (A.len c2) := by rw [X.a, hc2]; exact leaf_idx h5
    have hin : A.inr .i64 (A.add (Int.ofNat i) 1) := by rw [X.a]; exact leaf_inc h5 (by omega)
    have hl := insA_len (l := x.types.map (·.name) ++ (x.values.take i).map (·.name))
    simp only [List.length_append, List.length_map, List.length_take] at hl
    cbv
    repeat' (first | apply And.intro | exact fun (_ : False → False) => by kernel_rfl | (intro h2; cbv) | apply Or.inl)
    any_goals exact hid
    refine X.call (F52c k1 hr (by omega) fun r' hr' => ?_)
    have q1 : r' = encL encS (insA [] (x.types.map (·.name) ++ ((x.values.take (i+1)).map (·.name)))) := by rw [hr', map_take h5, ← List.append_assoc, insA_snoc]
    cbv
    repeat' (first | apply And.intro | exact fun (_ : False → False) => by kernel_rfl | (intro h2; cbv) | apply Or.inl)
    any_goals exact hin
    refine ⟨(i+1, r'), ⟨?_, q1⟩, ?_, ?_⟩
    · simp only; omega
    · simp only; omega
    (cbv; repeat' apply And.intro); all_goals (try (first | trivial | rfl | (rw [X.a]; rfl)))
  have h5 : i = n_c2 := by obtain rfl := X.a; simp only [hlen_c2, SD, bNot] at h1; omega
  subst h5
  rw [hn_c2, List.take_length] at hr
  clear h1 hi
  cbv
  refine X.loop (fun (y : Nat × D) => ⟨[(6, .int .i64 y.1), (3, .lst 9 y.2), (1, .box 0 0)], [.box [.str c0, .lst 58 c1, .lst 76 c2, .lst 72 c3, .lst 87 c4]]⟩)
    (fun y => y.1 ≤ n_c3 ∧ y.2 = encL encS (insA [] (x.types.map (·.name) ++ x.values.map (·.name) ++ ((x.aliases.take y.1).map (·.name))))) (fun y => n_c3 - y.1) (0, r) ⟨Nat.zero_le _, by simpa using hr⟩ ?_ ?_
  · (cbv; repeat' apply And.intro); all_goals (try (first | trivial | rfl | (rw [X.a]; rfl)))
  rintro ⟨i, r⟩ ⟨hi, hr⟩
  simp only at hi hr
  cbv
  refine ⟨fun h1 => ?_, fun h1 => ?_⟩
  · have h5 : i < x.aliases.length := by obtain rfl := X.a; simp only [hlen_c3, SD, bNot] at h1; omega
    have k1 := (aeAt X.a hc3 h5).1
    have hid : A.idx (Int.ofNat i) (A.len c3) := by rw [X.a, hc3]; exact leaf_idx h5
    have hin : A.inr .i64 (A.add (Int.ofNat i) 1) := by rw [X.a]; exact leaf_inc h5 (by omega)
    have hl := insA_len (l := x.types.map (·.name) ++ x.values.map (·.name) ++ (x.aliases.take i).map (·.name))
    simp only [List.length_append, List.length_map, List.length_take] at hl
    cbv
    repeat' (first | apply And.intro | exact fun (_ : False → False) => by kernel_rfl | (intro h2; cbv) | apply Or.inl)
    any_goals exact hid
    refine X.call (F52c k1 hr (by omega) fun r' hr' => ?_)
    have q1 : r' = encL encS (insA [] (x.types.map (·.name) ++ x.values.map (·.name) ++ ((x.aliases.take (i+1)).map (·.name)))) := by rw [hr', map_take h5, ← List.append_assoc, insA_snoc]
    cbv
    repeat' (first | apply And.intro | exact fun (_ : False → False) => by kernel_rfl | (intro h2; cbv) | apply Or.inl)
    any_goals exact hin
    refine ⟨(i+1, r'), ⟨?_, q1⟩, ?_, ?_⟩
    · simp only; omega
    · simp only; omega
    (cbv; repeat' apply And.intro); all_goals (try (first | trivial | rfl | (rw [X.a]; rfl)))
  have h5 : i = n_c3 := by obtain rfl := X.a; simp only [hlen_c3, SD, bNot] at h1; omega
  subst h5
  rw [hn_c3, List.take_length] at hr
  clear h1 hi
  cbv
  have q := h r hr
  exact q
end Go.VC.T07
end

section
/- The reference's uses. -/
set_option linter.unusedSimpArgs false
set_option linter.unusedVariables false
namespace Go.VC
def insU (s : U) : List U → List U
  | [] => [s]
  | x :: l => if ltU x s then x :: insU s l else if x = s then x :: l else s :: x :: l
theorem insU_mem {s y : U} : ∀ {l : List U}, y ∈ insU s l ↔ y = s ∨ y ∈ l
  | [] => by simp [insU]
  | x :: l => by
    unfold insU
    split
    · rw [List.mem_cons, insU_mem (l := l), List.mem_cons]
      constructor
      · rintro (h | h | h); exact .inr (.inl h); exact .inl h; exact .inr (.inr h)
      · rintro (h | h | h); exact .inr (.inl h); exact .inl h; exact .inr (.inr h)
    · split
      · rename_i h; subst h; simp
      · simp
theorem insU_srt {s : U} : ∀ {l : List U}, SrtU l → SrtU (insU s l)
  | [], _ => by unfold insU SrtU; simp
  | x :: l, h => by
    obtain ⟨h1, h2⟩ := List.pairwise_cons.1 h
    unfold insU
    split
    · rename_i hx
      refine List.pairwise_cons.2 ⟨fun y hy => ?_, insU_srt h2⟩
      rcases insU_mem.1 hy with rfl | hy
      · exact hx
      · exact h1 y hy
    · rename_i hx
      split
      · exact h
      · rename_i hne
        have hsx : ltU s x = true := by
          cases hb : ltU s x with
          | true => rfl
          | false => exact absurd (ltU_tri (by simpa using hx) hb) hne
        refine List.pairwise_cons.2 ⟨fun y hy => ?_, h⟩
        rcases List.mem_cons.1 hy with rfl | hy
        · exact hsx
        · exact ltU_trans hsx (h1 y hy)
theorem insU_at {s : U} : ∀ {l : List U} {i : Nat}, i ≤ l.length → (∀ x ∈ l.take i, ltU x s = true) → (∀ h : i < l.length, ltU l[i] s = false) →
    insU s l = if l[i]? = some s then l else l.take i ++ s :: l.drop i
  | [], i, h, _, _ => by simp at h; subst h; simp [insU]
  | x :: l, 0, _, _, h => by
    have h0 := h (by simp)
    simp only [List.getElem_cons_zero] at h0
    unfold insU
    rw [if_neg (by rw [h0]; simp)]
    simp only [List.getElem?_cons_zero, Option.some.injEq, List.take_zero, List.drop_zero, List.nil_append]
  | x :: l, i+1, hi, ha, h => by
    have h0 := ha x (by simp)
    have ih := insU_at (s := s) (l := l) (i := i) (by simpa using hi) (fun y hy => ha y (by simp [hy])) (fun hh => by have := h (by simpa using hh); simpa using this)
    unfold insU
    rw [if_pos h0, ih, List.getElem?_cons_succ, List.take_succ_cons, List.drop_succ_cons]
    split <;> rfl
theorem insU_len {s : U} : ∀ {l : List U}, (insU s l).length ≤ l.length + 1
  | [] => by simp [insU]
  | x :: l => by
    have := insU_len (s := s) (l := l)
    unfold insU
    split
    · simp; omega
    · split <;> simp
def insUs (a l : List U) : List U := l.foldl (fun a s => insU s a) a
theorem insUs_snoc {a l : List U} {s : U} : insUs a (l ++ [s]) = insU s (insUs a l) := by unfold insUs; rw [List.foldl_append]; rfl
theorem insUs_spec : ∀ (l : List U) (a : List U), SrtU a → SrtU (insUs a l) ∧ ∀ y, y ∈ insUs a l ↔ y ∈ l ∨ y ∈ a
  | [], a, h => ⟨h, by simp [insUs]⟩
  | x :: l, a, h => by
    obtain ⟨h1, h2⟩ := insUs_spec l (insU x a) (insU_srt h)
    refine ⟨h1, fun y => ?_⟩
    show y ∈ insUs (insU x a) l ↔ _
    rw [h2, insU_mem, List.mem_cons]
    constructor
    · rintro (h | h | h); exact .inl (.inr h); exact .inl (.inl h); exact .inr h
    · rintro ((h | h) | h); exact .inr (.inl h); exact .inl h; exact .inr (.inr h)
theorem insUs_len {l : List U} : ∀ {a : List U}, (insUs a l).length ≤ a.length + l.length := by
  induction l with
  | nil => intro a; simp [insUs]
  | cons x l ih =>
    intro a
    have := ih (a := insU x a)
    have h1 := insU_len (s := x) (l := a)
    show (insUs (insU x a) l).length ≤ _
    simp only [List.length_cons]; omega
def sortU (l : List U) : List U := insUs [] l
theorem SrtU_nil : SrtU [] := by unfold SrtU; simp
theorem sortU_srt (l : List U) : SrtU (sortU l) := (insUs_spec l [] SrtU_nil).1
theorem sortU_mem (l : List U) (y : U) : y ∈ sortU l ↔ y ∈ l := by unfold sortU; rw [(insUs_spec l [] SrtU_nil).2]; simp
theorem sortU_of {l m : List U} (h : SrtU l) (hm : ∀ s, s ∈ l ↔ s ∈ m) : l = sortU m := SrtU_ext h (sortU_srt m) fun s => by rw [hm, sortU_mem]
theorem sortU_len {l : List U} : (sortU l).length ≤ l.length := by have := insUs_len (l := l) (a := []); simpa [sortU] using this
end Go.VC
namespace Go.VC.T07
open Go Go.VC Go.Proofs
set_option maxRecDepth 100000 in
set_option maxHeartbeats 1000000 in
theorem F121 {a b : U} {a0 a1 b0 b1 : S} {K : PV → List Ob → Prop} (h1 : a0 = a.1) (h2 : a1 = a.2) (h3 : b0 = b.1) (h4 : b1 = b.2) (h : ∀ r, r = ltU a b → K (.bool r) []) :
    FC Tryz.prog tt 121 [] [.agg [.str a0, .str a1], .agg [.str b0, .str b1]] K := by
  subst h1 h2 h3 h4
  have hlt : ltU a b = if a.1 = b.1 then slt a.2 b.2 else slt a.1 b.1 := rfl
  refine FC.enter (G := g121) tt_ok mixed ⟨Tryz.func121, by rfl, rfl⟩ rfl rfl rfl ?_
  intro A C L X
  have es : A.seq a.1 b.1 = decide (a.1 = b.1) := by rw [X.a]; show (a.1 == b.1) = _; rw [Bool.eq_iff_iff]; simp
  have el : A.slt a.1 b.1 = slt a.1 b.1 := by rw [X.a]; rfl
  have q1 : A.seq a.1 b.1 = true → K (.bool (A.slt a.2 b.2)) [] := fun e => h _ (by rw [hlt, if_pos (by rw [es] at e; simpa using e), X.a]; rfl)
  have q2 : A.seq a.1 b.1 = false → A.slt a.1 b.1 = false → K (.bool false) [] := fun e e2 => h _ (by rw [hlt, if_neg (by rw [es] at e; simpa using e), ← el, e2])
  have q3 : A.slt a.1 b.1 = true → K (.bool true) [] := fun e => h _ (by rw [hlt, if_neg (fun e2 => by rw [el, e2, slt_irrefl] at e; cases e), ← el, e])
  cbv
  repeat' (first | apply And.intro | exact fun (_ : False → False) => by kernel_rfl | (intro h2; cbv) | apply Or.inl)
  · exact q1 h2
  · rename_i g1; exact q2 h2 g1
  · exact q3 h2

def g95a : Cfg := {tt := tt, n := 45, sch := g95.sch, own := [33]}
set_option maxRecDepth 100000 in
set_option maxHeartbeats 4000000 in
theorem F95 {l : List U} {s : U} {s0 s1 : S} {d : D} {K : PV → List Ob → Prop} (hs0 : s0 = s.1) (hs1 : s1 = s.2) (hd : d = encL encU l) (hl : l.length ≤ 4294967290) (h : ∀ r, r = encL encU (insU s l) → K (.lst 99 r) []) :
    FC Tryz.prog tt 95 [] [.lst 99 d, .agg [.str s0, .str s1]] K := by
  refine FC.enter (G := g95a) tt_ok mixed ⟨Tryz.func95, by rfl, rfl⟩ rfl rfl rfl ?_
  intro A C L X
  obtain ⟨n_d, hn_d⟩ : ∃ n, n = (l).length := ⟨_, rfl⟩
  have hlen_d : Std.len d = Int.ofNat n_d := by rw [hd, Std_len, hn_d]; rfl
  cbv
  refine X.loop (fun (i : Nat) => ⟨[(5, .int .i64 i), (0, .lst 99 d), (3, .box 0 0)], [.box [.str s0, .str s1]]⟩) (fun i => i ≤ n_d ∧ ∀ x ∈ l.take i, ltU x s = true) (fun i => n_d - i) 0 ⟨Nat.zero_le _, by simp⟩ ?_ ?_
  · (cbv; repeat' apply And.intro); all_goals (try (first | trivial | rfl | (rw [X.a]; rfl)))
  rintro i ⟨hi, ha⟩
  have b1 : A.bnd (Int.ofNat i) (A.len d) := by rw [X.a, hlen_d]; simp only [SD, bNot]; omega
  have b2 : A.bnd 0 (Int.ofNat i) := by rw [X.a]; simp only [SD, bNot]; omega
  have b3 : A.bnd (A.len d) (A.len d) := by rw [X.a, hlen_d]; simp only [SD, bNot]; omega
  have hys : ([.str s0, .str s1] : List D) = encU s := by rw [hs0, hs1]; rfl
  have b4 := bnd1 (i := i) X.a hd hl
  have b5 := bnd2 (i := i) (ys := [.str s0, .str s1]) X.a hd hl
  have b6 := bnd3 X.a hd (by omega : i ≤ l.length) hl hys
  have e3 := app3 (i := i) X.a hd hys
  have q : insU s l = l.take i ++ s :: l.drop i → K (.lst 99 (A.app (A.app (A.app (A.lit []) (A.part d 0 (Int.ofNat i))) (A.lit [[.str s0, .str s1]])) (A.part d (Int.ofNat i) (A.len d)))) [] := fun e => h _ (by rw [e3, e])
  cbv
  refine ⟨fun (_ : False → False) => by kernel_rfl, fun h1 => ?_, fun h1 => ?_⟩
  · have h5 : i < l.length := by obtain rfl := X.a; simp only [hlen_d, SD, bNot] at h1; omega
    obtain ⟨k1, k2⟩ := uAt X.a hd h5
    have heq : A.ite (A.seq (A.asStr (A.cell d (Int.ofNat i) 0)) s0) (A.ite (A.seq (A.asStr (A.cell d (Int.ofNat i) 1)) s1) true false) false = decide (l[i] = s) := by
      rw [k1, k2, hs0, hs1, X.a]
      have e : (l[i] = s) ↔ (l[i].1 = s.1 ∧ l[i].2 = s.2) := Prod.ext_iff
      rw [Std_ite, Std_ite, Std_seq, Std_seq]
      by_cases e1 : l[i].1 = s.1 <;> by_cases e2 : l[i].2 = s.2 <;> simp [e, e1, e2]
    have hlt0 : A.lt (Int.ofNat i) (A.len d) = true := h1
    have hid : A.idx (Int.ofNat i) (A.len d) := by rw [X.a, hd]; exact leaf_idx h5
    have hin : A.inr .i64 (A.add (Int.ofNat i) 1) := by rw [X.a]; exact leaf_inc h5 (by omega)
    cbv
    repeat' (first | apply And.intro | exact fun (_ : False → False) => by kernel_rfl | (intro h2; cbv) | apply Or.inl)
    any_goals exact hid
    refine X.call (F121 k1 k2 hs0 hs1 fun b hb => ?_)
    have hb1 : b = ltU l[i] s := hb
    clear hb
    cbv
    repeat' (first | apply And.intro | exact fun (_ : False → False) => by kernel_rfl | (intro h2; cbv) | apply Or.inl)
    any_goals exact hid
    any_goals exact hin
    any_goals exact b1
    any_goals exact b2
    any_goals exact b3
    any_goals exact b4
    any_goals exact b5
    any_goals exact b6
    · refine ⟨i+1, ⟨by omega, ?_⟩, by omega, ?_⟩
      · rename_i h3
        have h4 : ltU l[i] s = true := hb1.symm.trans h3
        rw [take_succ' h5]; intro x hx
        rcases List.mem_append.1 hx with hx | hx
        · exact ha x hx
        · simp at hx; subst hx; exact h4
      (cbv; repeat' apply And.intro); all_goals (try (first | trivial | rfl | (rw [X.a]; rfl)))
    all_goals first
      | (exfalso; have := hlt0.symm.trans h2; exact absurd this (by decide))
      | (rename_i g1 g2
         have hs : l[i]? = some s := by rw [List.getElem?_eq_getElem h5]; have := heq.symm.trans h2; simpa using this
         exact h d (by rw [insU_at (by omega) ha (fun _ => hb1.symm.trans g1), if_pos hs]; exact hd))
      | (rename_i g1 g2
         have hs : ¬ l[i]? = some s := by rw [List.getElem?_eq_getElem h5]; have := heq.symm.trans h2; simpa using this
         exact q (by rw [insU_at (by omega) ha (fun _ => hb1.symm.trans g1), if_neg hs]))
      | trace_state
  · have h5 : i = n_d := by obtain rfl := X.a; simp only [hlen_d, SD, bNot] at h1; omega
    have hs : ¬ l[i]? = some s := by rw [List.getElem?_eq_none (by omega)]; simp
    have q := q (by rw [insU_at (by omega) ha (fun _ => by omega), if_neg hs])
    have hlt0 : A.lt (Int.ofNat i) (A.len d) = false := h1
    cbv
    repeat' (first | apply And.intro | exact fun (_ : False → False) => by kernel_rfl | (intro h2; cbv) | apply Or.inl)
    any_goals exact b1
    any_goals exact b2
    any_goals exact b3
    any_goals exact b4
    any_goals exact b5
    any_goals exact b6
    all_goals first
      | (exfalso; have := hlt0.symm.trans h2; exact absurd this (by decide))
      | exact q
      | (exfalso; rename_i g1; have := hlt0.symm.trans g1; exact absurd this (by decide))
      | trace_state
end Go.VC.T07
end

section
/- The reference's mentions of a type. -/
set_option linter.unusedSimpArgs false
set_option linter.unusedVariables false
namespace Go.VC
theorem insUs_app {a l m : List U} : insUs a (l ++ m) = insUs (insUs a l) m := by unfold insUs; rw [List.foldl_append]
def partU (l : List Ty) : List U := l.flatMap fun u => sortU u.uses
theorem partU_take {l : List Ty} {i : Nat} (h : i < l.length) : partU (l.take (i+1)) = partU (l.take i) ++ sortU l[i].uses := by
  unfold partU; rw [take_succ' h, List.flatMap_append]; simp
theorem partU_len {l : List Ty} : (partU l).length ≤ (l.map Ty.size).sum := by
  induction l with
  | nil => simp [partU]
  | cons x l ih =>
    have h1 := sortU_len (l := x.uses)
    have h2 := uses_len x
    unfold partU at ih ⊢
    simp only [List.flatMap_cons, List.length_append, List.map_cons, List.sum_cons]; omega
theorem partU_mem {l : List Ty} {y : U} : y ∈ partU l ↔ y ∈ l.flatMap Ty.uses := by
  unfold partU
  simp only [List.mem_flatMap, sortU_mem]
theorem self_len (t : Ty) : t.self.length ≤ 1 := by unfold Ty.self; split <;> simp
theorem self_srt (t : Ty) : SrtU t.self := by unfold Ty.self SrtU; split <;> simp
theorem partU_end (t : Ty) : insUs t.self (partU t.pts) = sortU t.uses := by
  obtain ⟨h1, h2⟩ := insUs_spec (partU t.pts) t.self (self_srt t)
  refine sortU_of h1 fun s => ?_
  rw [h2, partU_mem, uses_eq, List.mem_append]
  exact Or.comm
theorem pts_len (t : Ty) : t.pts.length + 1 ≤ t.size := by
  rw [size_eq]
  have : ∀ l : List Ty, l.length ≤ (l.map Ty.size).sum := by
    intro l
    induction l with
    | nil => simp
    | cons x l ih => simp only [List.length_cons, List.map_cons, List.sum_cons]; have := size_eq x; omega
  have := this t.pts; omega
theorem sum_map_take_le {α : Type} {f : α → Nat} {l : List α} {i : Nat} : ((l.take i).map f).sum ≤ (l.map f).sum := by
  rw [List.map_take]; exact sum_take_le
theorem size_mem {t u : Ty} (h : u ∈ t.pts) : u.size + 1 ≤ t.size := by
  rw [size_eq t]
  have : ∀ l : List Ty, u ∈ l → u.size ≤ (l.map Ty.size).sum := by
    intro l
    induction l with
    | nil => simp
    | cons x l ih =>
      intro hm
      rcases List.mem_cons.1 hm with rfl | hm
      · simp
      · have := ih hm; simp; omega
  have := this _ h; omega
end Go.VC
namespace Go.VC.T07
open Go Go.VC Go.Proofs
set_option maxRecDepth 100000 in
set_option maxHeartbeats 4000000 in
theorem F56 : ∀ (t : Ty), Ty.le 4294967295 t → t.size ≤ 4294967290 → ∀ {c0 : Int} {c1 c2 : S} {c3 c4 : D} {K : PV → List Ob → Prop}, tyIs t c0 c1 c2 c3 c4 → (∀ r, r = encL encU (sortU t.uses) → K (.lst 99 r) []) → FC Tryz.prog tt 56 [] [tyPV c0 c1 c2 c3 c4] K := by
  refine Ty.pinduct fun t ih => ?_
  intro hle hs c0 c1 c2 c3 c4 K ht h
  obtain ⟨t0, t1, t2, _, _⟩ := id ht
  have hpl := pts_len t
  have hsz := size_eq t
  have hsl := self_len t
  refine FC.enter (G := g56) tt_ok mixed ⟨Tryz.func56, by rfl, rfl⟩ rfl rfl rfl ?_
  intro A C L X
  have e10 : A.eq c0 10 = decide (t.k = 10) := by rw [t0, X.a]; rfl
  have p1 : t.k = 10 → A.app (A.lit []) (A.lit [[.str c1, .str c2]]) = encL encU (insUs t.self (partU (t.pts.take 0))) := fun e => by
    rw [Ty.self, if_pos e, X.a, t1, t2]; rfl
  have p2 : ¬ t.k = 10 → A.lit [] = encL encU (insUs t.self (partU (t.pts.take 0))) := fun e => by
    rw [Ty.self, if_neg e, X.a]; rfl
  have bb : A.bnd (A.add (A.len (A.lit [])) (A.len (A.lit [[.str c1, .str c2]]))) 4294967296 := by rw [X.a]; simp only [SD, bNot]; omega
  cbv
  repeat' (first | apply And.intro | exact fun (_ : False → False) => by kernel_rfl | (intro h2; cbv) | apply Or.inl)
  any_goals exact bb
  all_goals (
    refine X.call (F57 hle (by omega) ht fun dp hdp => ?_)
    obtain ⟨n_dp, hn_dp⟩ : ∃ n, n = (t.pts).length := ⟨_, rfl⟩
    have hlen_dp : Std.len dp = Int.ofNat n_dp := by rw [hdp, Std_len, hn_dp]; rfl
    have p3 : ∃ o, o = encL encU (insUs t.self (partU (t.pts.take 0))) := ⟨_, rfl⟩
    cbv
    first
      | (have p4 := p1 (by rw [e10] at h2; simpa using h2)
         refine X.loop (fun (y : Nat × D) => ⟨[(5, .int .i64 y.1), (3, .lst 99 y.2), (4, .lst 43 dp)], []⟩)
           (fun y => y.1 ≤ n_dp ∧ y.2 = encL encU (insUs t.self (partU (t.pts.take y.1)))) (fun y => n_dp - y.1) (0, _) ⟨Nat.zero_le _, p4⟩ ?_ ?_
         · (cbv; repeat' apply And.intro); all_goals (try (first | trivial | rfl | (rw [X.a]; rfl))))
      | (have p4 := p2 (by rw [e10] at h2; simpa using h2)
         refine X.loop (fun (y : Nat × D) => ⟨[(5, .int .i64 y.1), (3, .lst 99 y.2), (4, .lst 43 dp)], []⟩)
           (fun y => y.1 ≤ n_dp ∧ y.2 = encL encU (insUs t.self (partU (t.pts.take y.1)))) (fun y => n_dp - y.1) (0, _) ⟨Nat.zero_le _, p4⟩ ?_ ?_
         · (cbv; repeat' apply And.intro); all_goals (try (first | trivial | rfl | (rw [X.a]; rfl)))))
  all_goals (
    rintro ⟨i, out⟩ ⟨hi, hr⟩
    simp only at hi hr
    cbv
    refine ⟨fun h1 => ?_, fun h1 => ?_⟩
    · have h5 : i < t.pts.length := by obtain rfl := X.a; simp only [hlen_dp, SD, bNot] at h1; omega
      have k1 := tyAt X.a hdp h5
      have hid : A.idx (Int.ofNat i) (A.len dp) := by rw [X.a, hdp]; exact leaf_idx h5
      have hin : A.inr .i64 (A.add (Int.ofNat i) 1) := by rw [X.a]; exact leaf_inc h5 (by omega)
      have hmem := List.getElem_mem h5
      have hsm := size_mem hmem
      have hul := uses_len t.pts[i]
      cbv
      repeat' (first | apply And.intro | exact fun (_ : False → False) => by kernel_rfl | (intro h2; cbv) | apply Or.inl)
      any_goals exact hid
      refine X.call (ih _ hmem (pts_le hle _ hmem) (by omega) k1 fun r2 hr2 => ?_)
      obtain ⟨l, hl0⟩ : ∃ l, l = sortU t.pts[i].uses := ⟨_, rfl⟩
      have hr2 : r2 = encL encU l := by rw [hl0]; exact hr2
      have hll : l.length ≤ t.pts[i].size := by rw [hl0]; exact Nat.le_trans sortU_len hul
      have hpt := partU_take h5
      rw [← hl0] at hpt
      have hol : (partU (t.pts.take i)).length + l.length ≤ (t.pts.map Ty.size).sum := by
        have a := partU_len (l := t.pts.take (i+1))
        have b := sum_map_take_le (f := Ty.size) (l := t.pts) (i := i+1)
        rw [hpt, List.length_append] at a; omega
      obtain ⟨n_r2, hn_r2⟩ : ∃ n, n = (l).length := ⟨_, rfl⟩
      have hlen_r2 : Std.len r2 = Int.ofNat n_r2 := by rw [hr2, Std_len, hn_r2]; rfl
      cbv
      refine X.loop (fun (y : Nat × D) => ⟨[(7, .int .i64 y.1), (6, .lst 99 r2), (3, .lst 99 y.2), (5, .int .i64 i), (4, .lst 43 dp)], []⟩)
        (fun y => y.1 ≤ n_r2 ∧ y.2 = encL encU (insUs (insUs t.self (partU (t.pts.take i))) (l.take y.1))) (fun y => n_r2 - y.1) (0, out) ⟨Nat.zero_le _, hr⟩ ?_ ?_
      · (cbv; repeat' apply And.intro); all_goals (try (first | trivial | rfl | (rw [X.a]; rfl)))
      · rintro ⟨j, o2⟩ ⟨hj, hr3⟩
        simp only at hj hr3
        cbv
        refine ⟨fun h1 => ?_, fun h1 => ?_⟩
        · have h6 : j < l.length := by obtain rfl := X.a; simp only [hlen_r2, SD, bNot] at h1; omega
          obtain ⟨k2, k3⟩ := uAt X.a hr2 h6
          have hid : A.idx (Int.ofNat j) (A.len r2) := by rw [X.a, hr2]; exact leaf_idx h6
          have hin2 : A.inr .i64 (A.add (Int.ofNat j) 1) := by rw [X.a]; exact leaf_inc h6 (by omega)
          have hlen3 := insUs_len (l := l.take j) (a := insUs t.self (partU (t.pts.take i)))
          have hlen4 := insUs_len (l := partU (t.pts.take i)) (a := t.self)
          have hlt : (l.take j).length ≤ l.length := by simp; omega
          cbv
          repeat' (first | apply And.intro | exact fun (_ : False → False) => by kernel_rfl | (intro h2; cbv) | apply Or.inl)
          any_goals exact hid
          refine X.call (F95 k2 k3 hr3 (by omega) fun r4 hr4 => ?_)
          have q1 : r4 = encL encU (insUs (insUs t.self (partU (t.pts.take i))) (l.take (j+1))) := by rw [take_succ' h6, insUs_snoc]; exact hr4
          cbv
          repeat' (first | apply And.intro | exact fun (_ : False → False) => by kernel_rfl | (intro h2; cbv) | apply Or.inl)
          any_goals exact hin2
          refine ⟨(j+1, r4), ⟨?_, q1⟩, ?_, ?_⟩
          · simp only; omega
          · simp only; omega
          (cbv; repeat' apply And.intro); all_goals (try (first | trivial | rfl | (rw [X.a]; rfl)))
        · have h6 : j = n_r2 := by obtain rfl := X.a; simp only [hlen_r2, SD, bNot] at h1; omega
          rw [h6, hn_r2, List.take_length, ← insUs_app, ← hpt] at hr3
          cbv
          repeat' (first | apply And.intro | exact fun (_ : False → False) => by kernel_rfl | (intro h2; cbv) | apply Or.inl)
          any_goals exact hin
          refine ⟨(i+1, o2), ⟨?_, hr3⟩, ?_, ?_⟩
          · simp only; omega
          · simp only; omega
          (cbv; repeat' apply And.intro); all_goals (try (first | trivial | rfl | (rw [X.a]; rfl)))
    · have h5 : i = n_dp := by obtain rfl := X.a; simp only [hlen_dp, SD, bNot] at h1; omega
      rw [h5, hn_dp, List.take_length, partU_end] at hr
      have q := h out hr
      cbv
      exact q)
end Go.VC.T07
end

section
/- The reference's types of an interface. -/
set_option linter.unusedSimpArgs false
set_option linter.unusedVariables false
namespace Go.VC
def teTys (e : TE) : List Ty := [e.lower, e.upper] ++ e.params.map (·.bound)
def veTys (e : VE) : List Ty := [e.ty] ++ e.params.map (·.bound)
def typesL (x : IF) : List Ty := x.types.flatMap teTys ++ x.values.flatMap veTys
theorem flat_take_len {α β : Type} {f : α → List β} {l : List α} {i : Nat} (h : i < l.length) : ((l.take i).flatMap f).length + (f l[i]).length ≤ (l.flatMap f).length := by
  have e : l.flatMap f = (l.take (i+1)).flatMap f ++ (l.drop (i+1)).flatMap f := by rw [← List.flatMap_append, List.take_append_drop]
  rw [e, flat_take h, List.length_append, List.length_append]; omega
end Go.VC
namespace Go.VC.T07
open Go Go.VC Go.Proofs
def g42a : Cfg := {tt := tt, n := 96, sch := g42.sch, own := [8]}
set_option maxRecDepth 100000 in
set_option maxHeartbeats 4000000 in
theorem F42 {x : IF} {c0 : S} {c1 c2 c3 c4 : D} {K : PV → List Ob → Prop} (hx : ifIs x c0 c1 c2 c3 c4) (hok : x.ok) (hw : (typesL x).length ≤ 4294967290)
    (h : ∀ r, r = encL encTy (typesL x) → K (.lst 43 r) []) : FC Tryz.prog tt 42 [] [ifPV c0 c1 c2 c3 c4] K := by
  obtain ⟨x0, hc1, hc2, hc3, hc4⟩ := hx
  have nt := hok.nt
  have nv := hok.nv
  have htl : (typesL x).length = (x.types.flatMap teTys).length + (x.values.flatMap veTys).length := by unfold typesL; rw [List.length_append]
  refine FC.enter (G := g42a) tt_ok mixed ⟨Tryz.func42, by rfl, rfl⟩ rfl rfl rfl ?_
  intro A C L X
  obtain ⟨n_c1, hn_c1⟩ : ∃ n, n = (x.types).length := ⟨_, rfl⟩
  have hlen_c1 : Std.len c1 = Int.ofNat n_c1 := by rw [hc1, Std_len, hn_c1]; rfl
  obtain ⟨n_c2, hn_c2⟩ : ∃ n, n = (x.values).length := ⟨_, rfl⟩
  have hlen_c2 : Std.len c2 = Int.ofNat n_c2 := by rw [hc2, Std_len, hn_c2]; rfl
  cbv
  refine X.loopP (fun (y : Nat × D) => ⟨[(4, .int .i64 y.1), (3, .row 43 1), (1, .box 0 0)], [.box [.str c0, .lst 58 c1, .lst 76 c2, .lst 72 c3, .lst 87 c4], .row 43 y.2 true]⟩)
    (fun y => y.1 ≤ n_c1 ∧ y.2 = encL encTy ((x.types.take y.1).flatMap teTys)) (fun y => n_c1 - y.1) (0, A.lit []) ⟨Nat.zero_le _, by rw [X.a]; rfl⟩ ?_ ?_
  · refine ⟨[0, 1], rfl, ?_⟩
    (cbv; repeat' apply And.intro); all_goals (try (first | trivial | rfl | (rw [X.a]; rfl)))
  rintro ⟨i, r⟩ ⟨hi, hr⟩
  simp only at hi hr
  cbv
  refine ⟨fun h1 => ?_, fun h1 => ?_⟩
  · have h5 : i < x.types.length := by obtain rfl := X.a; simp only [hlen_c1, SD, bNot] at h1; omega
    obtain ⟨k0, k1, ⟨m0, m1, m2, m3, m4⟩, ⟨u0, u1, u2, u3, u4⟩⟩ := teIsAt X.a hc1 h5
    have hid : A.idx (Int.ofNat i) (A.len c1) := by rw [X.a, hc1]; exact leaf_idx h5
    have hin : A.inr .i64 (A.add (Int.ofNat i) 1) := by rw [X.a]; exact leaf_inc h5 (by omega)
    have hfl := flat_take_len (f := teTys) h5
    have hft := flat_take (f := teTys) h5
    have htn : (teTys x.types[i]).length = 2 + x.types[i].params.length := by unfold teTys; simp; omega
    have hrl : ((x.types.take i).flatMap teTys).length + 2 + x.types[i].params.length ≤ 4294967290 := by first | omega | (simp only [List.length_append]; omega)
    have q1 : A.app r (A.lit [[.int (A.asInt (A.cell c1 (Int.ofNat i) 2)), .str (A.asStr (A.cell c1 (Int.ofNat i) 3)), .str (A.asStr (A.cell c1 (Int.ofNat i) 4)), A.cell c1 (Int.ofNat i) 5, A.cell c1 (Int.ofNat i) 6], [.int (A.asInt (A.cell c1 (Int.ofNat i) 7)), .str (A.asStr (A.cell c1 (Int.ofNat i) 8)), .str (A.asStr (A.cell c1 (Int.ofNat i) 9)), A.cell c1 (Int.ofNat i) 10, A.cell c1 (Int.ofNat i) 11]]) = encL encTy ((x.types.take i).flatMap teTys ++ [x.types[i].lower, x.types[i].upper] ++ (x.types[i].params.take 0).map (·.bound)) := by
      rw [m0, m1, m2, m3, m4, u0, u1, u2, u3, u4, ← encTy_eq, ← encTy_eq, X.a, hr]
      refine (Std_app (f := encTy) (k := [x.types[i].lower, x.types[i].upper])).trans ?_
      simp
    have b1 : A.bnd (A.add (A.len r) (A.len (A.lit [[.int (A.asInt (A.cell c1 (Int.ofNat i) 2)), .str (A.asStr (A.cell c1 (Int.ofNat i) 3)), .str (A.asStr (A.cell c1 (Int.ofNat i) 4)), A.cell c1 (Int.ofNat i) 5, A.cell c1 (Int.ofNat i) 6], [.int (A.asInt (A.cell c1 (Int.ofNat i) 7)), .str (A.asStr (A.cell c1 (Int.ofNat i) 8)), .str (A.asStr (A.cell c1 (Int.ofNat i) 9)), A.cell c1 (Int.ofNat i) 10, A.cell c1 (Int.ofNat i) 11]]))) 4294967296 := by rw [X.a, hr, Std_len, Std_len_lit]; exact ⟨by rw [Std_add]; omega, by rw [Std_add]; simp only [List.length_cons, List.length_nil]; omega⟩
    cbv
    repeat' (first | apply And.intro | exact fun (_ : False → False) => by kernel_rfl | (intro h2; cbv) | apply Or.inl)
    any_goals exact hid
    any_goals exact b1
    obtain ⟨dp, hdp⟩ : ∃ dp, dp = A.cell c1 (Int.ofNat i) 1 := ⟨_, rfl⟩
    rw [← hdp] at k1
    obtain ⟨n_dp, hn_dp⟩ : ∃ n, n = (x.types[i].params).length := ⟨_, rfl⟩
    have hlen_dp : Std.len dp = Int.ofNat n_dp := by rw [k1, Std_len, hn_dp]; rfl
    refine X.loopP (fun (y : Nat × D) => ⟨[(5, .int .i64 y.1), (4, .int .i64 i), (3, .row 43 1), (1, .box 0 0)], [.box [.str c0, .lst 58 c1, .lst 76 c2, .lst 72 c3, .lst 87 c4], .row 43 y.2 true]⟩)
      (fun y => y.1 ≤ n_dp ∧ y.2 = encL encTy ((x.types.take i).flatMap teTys ++ [x.types[i].lower, x.types[i].upper] ++ (x.types[i].params.take y.1).map (·.bound))) (fun y => n_dp - y.1) (0, _) ⟨Nat.zero_le _, q1⟩ ?_ ?_
    · refine ⟨[0, 1], rfl, ?_⟩
      (cbv; repeat' apply And.intro); all_goals (try (first | trivial | rfl | (rw [X.a]; rfl)))
    rintro ⟨j, r2⟩ ⟨hj, hr2⟩
    simp only at hj hr2
    have hlj : A.len (A.cell c1 (Int.ofNat i) 1) = Int.ofNat n_dp := by rw [← hdp, X.a]; exact hlen_dp
    cbv
    refine ⟨hid, ?_⟩
    refine ⟨fun h1 => ?_, fun h1 => ?_⟩
    · have h6 : j < x.types[i].params.length := by
        have h1 : A.lt (Int.ofNat j) (A.len (A.cell c1 (Int.ofNat i) 1)) = true := h1
        rw [hlj] at h1; obtain rfl := X.a; simp only [SD, bNot] at h1; omega
      obtain ⟨w0, w1, w2, w3, w4, w5, w6⟩ := pmIsAt X.a k1 h6
      rw [hdp] at w2 w3 w4 w5 w6
      have hid2 : A.idx (Int.ofNat j) (A.len (A.cell c1 (Int.ofNat i) 1)) := by rw [← hdp, X.a, k1]; exact leaf_idx h6
      have hin2 : A.inr .i64 (A.add (Int.ofNat j) 1) := by rw [X.a]; exact leaf_inc h6 (by omega)
      have hcur : ((x.types.take i).flatMap teTys ++ [x.types[i].lower, x.types[i].upper] ++ (x.types[i].params.take j).map (·.bound)).length ≤ 4294967290 := by simp only [List.length_append, List.length_map, List.length_take, List.length_cons, List.length_nil] at hrl ⊢; omega
      have q2 : A.app r2 (A.lit [[.int (A.asInt (A.cell (A.cell c1 (Int.ofNat i) 1) (Int.ofNat j) 2)), .str (A.asStr (A.cell (A.cell c1 (Int.ofNat i) 1) (Int.ofNat j) 3)), .str (A.asStr (A.cell (A.cell c1 (Int.ofNat i) 1) (Int.ofNat j) 4)), (A.cell (A.cell c1 (Int.ofNat i) 1) (Int.ofNat j) 5), (A.cell (A.cell c1 (Int.ofNat i) 1) (Int.ofNat j) 6)]]) = encL encTy ((x.types.take i).flatMap teTys ++ [x.types[i].lower, x.types[i].upper] ++ (x.types[i].params.take (j+1)).map (·.bound)) := by
        rw [w2, w3, w4, w5, w6, X.a, hr2, map_take h6, ← List.append_assoc, ← encTy_eq]
        exact Std_app (k := [x.types[i].params[j].bound])
      have b2 : A.bnd (A.add (A.len r2) (A.len (A.lit [[.int (A.asInt (A.cell (A.cell c1 (Int.ofNat i) 1) (Int.ofNat j) 2)), .str (A.asStr (A.cell (A.cell c1 (Int.ofNat i) 1) (Int.ofNat j) 3)), .str (A.asStr (A.cell (A.cell c1 (Int.ofNat i) 1) (Int.ofNat j) 4)), (A.cell (A.cell c1 (Int.ofNat i) 1) (Int.ofNat j) 5), (A.cell (A.cell c1 (Int.ofNat i) 1) (Int.ofNat j) 6)]]))) 4294967296 := by rw [X.a, hr2, Std_len, Std_len_lit]; exact ⟨by rw [Std_add]; omega, by rw [Std_add]; simp only [List.length_cons, List.length_nil]; omega⟩
      cbv
      repeat' (first | apply And.intro | exact fun (_ : False → False) => by kernel_rfl | (intro h2; cbv) | apply Or.inl)
      any_goals exact hid
      any_goals exact hid2
      any_goals exact b2
      any_goals exact hin2
      refine ⟨(j+1, _), ⟨?_, q2⟩, ?_, [0, 1], rfl, ?_⟩
      · simp only; omega
      · simp only; omega
      (cbv; repeat' apply And.intro); all_goals (try (first | trivial | rfl | (rw [X.a]; rfl)))
    · have h6 : j = n_dp := by
        have h1 : A.lt (Int.ofNat j) (A.len (A.cell c1 (Int.ofNat i) 1)) = false := h1
        rw [hlj] at h1; obtain rfl := X.a; simp only [SD, bNot] at h1; omega
      rw [h6, hn_dp, List.take_length] at hr2
      have q3 : r2 = encL encTy ((x.types.take (i+1)).flatMap teTys) := by rw [hr2, hft]; unfold teTys; simp only [List.append_assoc]
      cbv
      repeat' (first | apply And.intro | exact fun (_ : False → False) => by kernel_rfl | (intro h2; cbv) | apply Or.inl)
      any_goals exact hin
      refine ⟨(i+1, r2), ⟨?_, q3⟩, ?_, [0, 1], rfl, ?_⟩
      · simp only; omega
      · simp only; omega
      (cbv; repeat' apply And.intro); all_goals (try (first | trivial | rfl | (rw [X.a]; rfl)))
  have h5 : i = n_c1 := by obtain rfl := X.a; simp only [hlen_c1, SD, bNot] at h1; omega
  rw [h5, hn_c1, List.take_length] at hr
  clear h1 hi
  cbv
  refine X.loopP (fun (y : Nat × D) => ⟨[(6, .int .i64 y.1), (3, .row 43 1), (1, .box 0 0)], [.box [.str c0, .lst 58 c1, .lst 76 c2, .lst 72 c3, .lst 87 c4], .row 43 y.2 true]⟩)
    (fun y => y.1 ≤ n_c2 ∧ y.2 = encL encTy (x.types.flatMap teTys ++ (x.values.take y.1).flatMap veTys)) (fun y => n_c2 - y.1) (0, r) ⟨Nat.zero_le _, by simpa using hr⟩ ?_ ?_
  · refine ⟨[0, 1], rfl, ?_⟩
    (cbv; repeat' apply And.intro); all_goals (try (first | trivial | rfl | (rw [X.a]; rfl)))
  rintro ⟨i, r⟩ ⟨hi, hr⟩
  simp only at hi hr
  cbv
  refine ⟨fun h1 => ?_, fun h1 => ?_⟩
  · have h5 : i < x.values.length := by obtain rfl := X.a; simp only [hlen_c2, SD, bNot] at h1; omega
    obtain ⟨k0, k1, ⟨m0, m1, m2, m3, m4⟩⟩ := veIsAt X.a hc2 h5
    have hid : A.idx (Int.ofNat i) (A.len c2) := by rw [X.a, hc2]; exact leaf_idx h5
    have hin : A.inr .i64 (A.add (Int.ofNat i) 1) := by rw [X.a]; exact leaf_inc h5 (by omega)
    have hfl := flat_take_len (f := veTys) h5
    have hft := flat_take (f := veTys) h5
    have htn : (veTys x.values[i]).length = 1 + x.values[i].params.length := by unfold veTys; simp; omega
    have hrl : (x.types.flatMap teTys ++ (x.values.take i).flatMap veTys).length + 1 + x.values[i].params.length ≤ 4294967290 := by first | omega | (simp only [List.length_append]; omega)
    have q1 : A.app r (A.lit [[.int (A.asInt (A.cell c2 (Int.ofNat i) 2)), .str (A.asStr (A.cell c2 (Int.ofNat i) 3)), .str (A.asStr (A.cell c2 (Int.ofNat i) 4)), A.cell c2 (Int.ofNat i) 5, A.cell c2 (Int.ofNat i) 6]]) = encL encTy (x.types.flatMap teTys ++ (x.values.take i).flatMap veTys ++ [x.values[i].ty] ++ (x.values[i].params.take 0).map (·.bound)) := by
      rw [m0, m1, m2, m3, m4, ← encTy_eq, X.a, hr]
      refine (Std_app (f := encTy) (k := [x.values[i].ty])).trans ?_
      simp
    have b1 : A.bnd (A.add (A.len r) (A.len (A.lit [[.int (A.asInt (A.cell c2 (Int.ofNat i) 2)), .str (A.asStr (A.cell c2 (Int.ofNat i) 3)), .str (A.asStr (A.cell c2 (Int.ofNat i) 4)), A.cell c2 (Int.ofNat i) 5, A.cell c2 (Int.ofNat i) 6]]))) 4294967296 := by rw [X.a, hr, Std_len, Std_len_lit]; exact ⟨by rw [Std_add]; omega, by rw [Std_add]; simp only [List.length_cons, List.length_nil]; omega⟩
    cbv
    repeat' (first | apply And.intro | exact fun (_ : False → False) => by kernel_rfl | (intro h2; cbv) | apply Or.inl)
    any_goals exact hid
    any_goals exact b1
    obtain ⟨dp, hdp⟩ : ∃ dp, dp = A.cell c2 (Int.ofNat i) 1 := ⟨_, rfl⟩
    rw [← hdp] at k1
    obtain ⟨n_dp, hn_dp⟩ : ∃ n, n = (x.values[i].params).length := ⟨_, rfl⟩
    have hlen_dp : Std.len dp = Int.ofNat n_dp := by rw [k1, Std_len, hn_dp]; rfl
    refine X.loopP (fun (y : Nat × D) => ⟨[(7, .int .i64 y.1), (6, .int .i64 i), (3, .row 43 1), (1, .box 0 0)], [.box [.str c0, .lst 58 c1, .lst 76 c2, .lst 72 c3, .lst 87 c4], .row 43 y.2 true]⟩)
      (fun y => y.1 ≤ n_dp ∧ y.2 = encL encTy (x.types.flatMap teTys ++ (x.values.take i).flatMap veTys ++ [x.values[i].ty] ++ (x.values[i].params.take y.1).map (·.bound))) (fun y => n_dp - y.1) (0, _) ⟨Nat.zero_le _, q1⟩ ?_ ?_
    · refine ⟨[0, 1], rfl, ?_⟩
      (cbv; repeat' apply And.intro); all_goals (try (first | trivial | rfl | (rw [X.a]; rfl)))
    rintro ⟨j, r2⟩ ⟨hj, hr2⟩
    simp only at hj hr2
    have hlj : A.len (A.cell c2 (Int.ofNat i) 1) = Int.ofNat n_dp := by rw [← hdp, X.a]; exact hlen_dp
    cbv
    refine ⟨hid, ?_⟩
    refine ⟨fun h1 => ?_, fun h1 => ?_⟩
    · have h6 : j < x.values[i].params.length := by
        have h1 : A.lt (Int.ofNat j) (A.len (A.cell c2 (Int.ofNat i) 1)) = true := h1
        rw [hlj] at h1; obtain rfl := X.a; simp only [SD, bNot] at h1; omega
      obtain ⟨w0, w1, w2, w3, w4, w5, w6⟩ := pmIsAt X.a k1 h6
      rw [hdp] at w2 w3 w4 w5 w6
      have hid2 : A.idx (Int.ofNat j) (A.len (A.cell c2 (Int.ofNat i) 1)) := by rw [← hdp, X.a, k1]; exact leaf_idx h6
      have hin2 : A.inr .i64 (A.add (Int.ofNat j) 1) := by rw [X.a]; exact leaf_inc h6 (by omega)
      have hcur : (x.types.flatMap teTys ++ (x.values.take i).flatMap veTys ++ [x.values[i].ty] ++ (x.values[i].params.take j).map (·.bound)).length ≤ 4294967290 := by simp only [List.length_append, List.length_map, List.length_take, List.length_cons, List.length_nil] at hrl ⊢; omega
      have q2 : A.app r2 (A.lit [[.int (A.asInt (A.cell (A.cell c2 (Int.ofNat i) 1) (Int.ofNat j) 2)), .str (A.asStr (A.cell (A.cell c2 (Int.ofNat i) 1) (Int.ofNat j) 3)), .str (A.asStr (A.cell (A.cell c2 (Int.ofNat i) 1) (Int.ofNat j) 4)), (A.cell (A.cell c2 (Int.ofNat i) 1) (Int.ofNat j) 5), (A.cell (A.cell c2 (Int.ofNat i) 1) (Int.ofNat j) 6)]]) = encL encTy (x.types.flatMap teTys ++ (x.values.take i).flatMap veTys ++ [x.values[i].ty] ++ (x.values[i].params.take (j+1)).map (·.bound)) := by
        rw [w2, w3, w4, w5, w6, X.a, hr2, map_take h6, ← List.append_assoc, ← encTy_eq]
        exact Std_app (k := [x.values[i].params[j].bound])
      have b2 : A.bnd (A.add (A.len r2) (A.len (A.lit [[.int (A.asInt (A.cell (A.cell c2 (Int.ofNat i) 1) (Int.ofNat j) 2)), .str (A.asStr (A.cell (A.cell c2 (Int.ofNat i) 1) (Int.ofNat j) 3)), .str (A.asStr (A.cell (A.cell c2 (Int.ofNat i) 1) (Int.ofNat j) 4)), (A.cell (A.cell c2 (Int.ofNat i) 1) (Int.ofNat j) 5), (A.cell (A.cell c2 (Int.ofNat i) 1) (Int.ofNat j) 6)]]))) 4294967296 := by rw [X.a, hr2, Std_len, Std_len_lit]; exact ⟨by rw [Std_add]; omega, by rw [Std_add]; simp only [List.length_cons, List.length_nil]; omega⟩
      cbv
      repeat' (first | apply And.intro | exact fun (_ : False → False) => by kernel_rfl | (intro h2; cbv) | apply Or.inl)
      any_goals exact hid
      any_goals exact hid2
      any_goals exact b2
      any_goals exact hin2
      refine ⟨(j+1, _), ⟨?_, q2⟩, ?_, [0, 1], rfl, ?_⟩
      · simp only; omega
      · simp only; omega
      (cbv; repeat' apply And.intro); all_goals (try (first | trivial | rfl | (rw [X.a]; rfl)))
    · have h6 : j = n_dp := by
        have h1 : A.lt (Int.ofNat j) (A.len (A.cell c2 (Int.ofNat i) 1)) = false := h1
        rw [hlj] at h1; obtain rfl := X.a; simp only [SD, bNot] at h1; omega
      rw [h6, hn_dp, List.take_length] at hr2
      have q3 : r2 = encL encTy (x.types.flatMap teTys ++ (x.values.take (i+1)).flatMap veTys) := by rw [hr2, hft]; unfold veTys; simp only [List.append_assoc]
      cbv
      repeat' (first | apply And.intro | exact fun (_ : False → False) => by kernel_rfl | (intro h2; cbv) | apply Or.inl)
      any_goals exact hin
      refine ⟨(i+1, r2), ⟨?_, q3⟩, ?_, [0, 1], rfl, ?_⟩
      · simp only; omega
      · simp only; omega
      (cbv; repeat' apply And.intro); all_goals (try (first | trivial | rfl | (rw [X.a]; rfl)))
  have h5 : i = n_c2 := by obtain rfl := X.a; simp only [hlen_c2, SD, bNot] at h1; omega
  rw [h5, hn_c2, List.take_length] at hr
  clear h1 hi
  cbv
  exact h r hr
end Go.VC.T07
end
