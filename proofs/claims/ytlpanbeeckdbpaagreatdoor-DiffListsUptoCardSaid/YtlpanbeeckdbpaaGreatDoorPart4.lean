/- Part 4 of the common texts: G1. -/
import Derived.Sort.Walk0
import Derived.Test.YtlpanbeeckdbpaaGreatDoorPart3
set_option linter.all false
set_option maxRecDepth 100000
set_option maxHeartbeats 16000000

section
namespace Go.VC
section
variable {a b:Int} {k:IntKind} {x y:List UInt8} {p q:Bool} {d e:D}
theorem Std_lt:Std.lt a b=decide (a<b):=rfl
theorem Std_le:Std.le a b=decide (a≤b):=rfl
theorem Std_eq:Std.eq a b=(a==b):=rfl
theorem Std_add:Std.add a b=a+b:=rfl
theorem Std_sub:Std.sub a b=a-b:=rfl
theorem Std_mul:Std.mul a b=a*b:=rfl
theorem Std_not:Std.not p= !p:=rfl
theorem Std_beq:Std.beq p q=(p==q):=rfl
theorem Std_ite {c:Bool}:Std.ite c p q=(bif c then p else q):=rfl
theorem Std_seq:Std.seq x y=(x==y):=rfl
theorem Std_slen:Std.slen x=(x.length:Int):=rfl
theorem Std_max:Std.max a b=if b>a then b else a:=rfl
theorem Std_min:Std.min a b=if b<a then b else a:=rfl
theorem Std_idx:Std.idx a b=(0≤a∧a<b):=rfl
theorem Std_bnd:Std.bnd a b=(0≤a∧a≤b):=rfl
theorem Std_same:Std.same a b=(a=b):=rfl
theorem Std_inr64:Std.inr .i64 a=(-9223372036854775808≤a∧a≤9223372036854775807):=rfl
theorem Std_int {n:Int}:Std.asInt (.int n)=n:=rfl
theorem Std_bool:Std.asBool (.bool p)=p:=rfl
theorem Std_str:Std.asStr (.str x)=x:=rfl
end
def encL {α:Type} (f:α→List D) (l:List α):D:=.list (l.map f)
theorem Std_len {α:Type} {f:α→List D} {l:List α}:Std.len (encL f l)=(l.length:Int):=by simp [Std,std,encL,rowsD]
theorem Std_cell {α:Type} {f:α→List D} {l:List α} {i:Nat} {j:Nat} (h:i<l.length):Std.cell (encL f l) (Int.ofNat i) j=(f l[i]).getD j .nil:=by
 simp [Std,std,encL,rowsD,List.getD,h]
theorem Std_app {α:Type} {f:α→List D} {l k:List α}:Std.app (encL f l) (encL f k)=encL f (l++k):=by simp [Std,std,encL,rowsD]
theorem leaf_idx {α:Type} {f:α→List D} {l:List α} {i:Nat} (h:i<l.length):Std.idx (Int.ofNat i) (Std.len (encL f l)):=
 ⟨Int.natCast_nonneg _,by rw [Std_len];exact Int.ofNat_lt.2 h⟩
theorem leaf_inc {i n:Nat} (h:i<n) (hn:n<4294967297):Std.inr .i64 (Std.add (Int.ofNat i) 1):=by
 rw [Std_inr64,Std_add];simp only [Int.ofNat_eq_natCast];omega
theorem all_take {α:Type} {p:α→Bool} {l:List α} {i:Nat} (h:i<l.length) (ha:(l.take i).all p=true) (hp:p l[i]=true):(l.take (i+1)).all p=true:=by
 rw [List.take_succ_eq_append_getElem h,List.all_append,ha];simp [hp]
theorem all_false {α:Type} {p:α→Bool} {l:List α} {i:Nat} (h:i<l.length) (hp:p l[i]=false):l.all p=false:=by
 rw [List.all_eq_false];exact ⟨l[i],List.getElem_mem h,by simp [hp]⟩
theorem Std_setc {α:Type} {f:α→List D} {l:List α} {a:Int} {i off:Nat} {vs:List D} {y:α} (ha:a=i) (h:i<l.length) (hy:(f l[i]).take off++vs++(f l[i]).drop (off+vs.length)=f y):Std.setc (encL f l) a off vs=encL f (l.set i y):=by
 subst ha
 simp only [Std,std,encL,rowsD,Int.toNat_natCast]
 congr 1
 apply List.ext_getElem (by simp)
 intro j h1 h2
 simp only [List.getElem_modify,List.getElem_map,List.getElem_set]
 split
 ·rename_i hij;subst hij;exact hy
 ·rfl
theorem Std_max' {a b:Int}:Std.max a b=max a b:=by rw [Std_max];split<;>omega
theorem Std_min' {a b:Int}:Std.min a b=min a b:=by rw [Std_min];split<;>omega
theorem Std_partI {α:Type} {f:α→List D} {l:List α} {a b:Int}:Std.part (encL f l) a b=encL f ((l.drop a.toNat).take (b.toNat-a.toNat)):=by
 simp [Std,std,encL,rowsD,List.map_drop,List.map_take]
theorem Std_len_app {d e:D}:Std.len (Std.app d e)=Std.len d+Std.len e:=by simp [Std,std,rowsD]
theorem Std_len_lit {l:List (List D)}:Std.len (Std.lit l)=(l.length:Int):=by simp [Std,std,rowsD]
theorem Std_len_setc {d:D} {i:Int} {off:Nat} {vs:List D}:Std.len (Std.setc d i off vs)=Std.len d:=by simp [Std,std,rowsD]
def slt (a b:List UInt8):Bool:=Op.bytesLess a b
theorem Std_slt' {a b:List UInt8}:Std.slt a b=slt a b:=rfl
def idxF {α:Type} (p:α→Bool) (l:List α):Int:=match l.findIdx? p with|some i=>i|none=> -1
theorem idxF_some {α:Type} {p:α→Bool} {l:List α} {i:Nat} (h:i<l.length) (ha:∀ x∈l.take i,p x=false) (hp:p l[i]=true):idxF p l=i:=by
 have:l.findIdx? p=some i:=by
  rw [List.findIdx?_eq_some_iff_getElem]
  refine ⟨h,hp,fun j hj=> ?_⟩
  have:=ha l[j] (by rw [List.mem_take_iff_getElem];exact ⟨j,by omega,rfl⟩)
  simp [this]
 rw [idxF,this]
theorem idxF_none {α:Type} {p:α→Bool} {l:List α} (ha:∀ x∈l,p x=false):idxF p l= -1:=by
 have:l.findIdx? p=none:=by rw [List.findIdx?_eq_none_iff];exact ha
 rw [idxF,this]
theorem idxF_any {α:Type} {p:α→Bool} {l:List α}:l.any p=decide (0≤idxF p l):=by
 cases h:l.findIdx? p with
 |none=>
  have h1:=List.findIdx?_eq_none_iff.1 h
  have:l.any p=false:=by rw [List.any_eq_false];intro x hx;rw [h1 x hx];simp
  simp only [idxF,h,this];rfl
 |some i=>
  obtain ⟨h1,h2,_⟩:=List.findIdx?_eq_some_iff_getElem.1 h
  have:l.any p=true:=by rw [List.any_eq_true];exact ⟨_,List.getElem_mem h1,h2⟩
  simp only [idxF,h,this];simp
theorem idxF_cases {α:Type} (p:α→Bool) (l:List α):(idxF p l= -1∧∀ x∈l,p x=false)∨∃ i,∃ h:i<l.length,idxF p l=(i:Int)∧p l[i]=true∧∀ x∈l.take i,p x=false:=by
 cases h:l.findIdx? p with
 |none=>exact .inl ⟨by simp only [idxF,h],List.findIdx?_eq_none_iff.1 h⟩
 |some i=>
  obtain ⟨h1,h2,h3⟩:=List.findIdx?_eq_some_iff_getElem.1 h
  refine .inr ⟨i,h1,by simp only [idxF,h],h2,fun x hx=> ?_⟩
  rw [List.mem_take_iff_getElem] at hx
  obtain ⟨j,hj,rfl⟩:=hx
  have:=h3 j (by omega)
  simpa using this
theorem take_succ' {α:Type} {l:List α} {i:Nat} (h:i<l.length):l.take (i+1)=l.take i++[l[i]]:=List.take_succ_eq_append_getElem h
theorem nbF:bNot false=true:=rfl
theorem nbT:bNot true=false:=rfl
def SD:=And.intro @nbF (And.intro @nbT (And.intro @Std_len (And.intro @Std_lt (And.intro @Std_le (And.intro @Std_eq (And.intro @Std_add (And.intro @Std_sub (And.intro @Std_mul (And.intro @Std_not (And.intro @Std_ite (And.intro @Std_str (And.intro @Std_bool (And.intro @Std_int (And.intro @Std_slen (And.intro @Std_seq (And.intro @Std_slt' (And.intro @Std_beq (And.intro @Std_idx (And.intro @Std_bnd (And.intro @Std_same (And.intro @Std_max' (And.intro @Std_min' (And.intro @Std_partI (And.intro @Std_app (And.intro @Std_len_app (And.intro @Std_len_lit (And.intro @Std_len_setc (And.intro @List.length_take.{0} (And.intro @List.length_drop.{0} (And.intro @List.length_append.{0} (And.intro @List.length_cons.{0} (And.intro @List.length_nil.{0} (And.intro @Int.toNat_natCast (And.intro @Std_inr64 (And.intro @Int.ofNat_eq_natCast (And.intro @Int.natCast_zero (And.intro @decide_eq_true_eq (And.intro @decide_eq_false_iff_not (And.intro @Bool.not_eq_true (And.intro @Bool.not_eq_false (And.intro @Bool.not_eq_eq_eq_not (And.intro @Bool.not_true (And.intro @Bool.not_false (And.intro @beq_iff_eq.{0} (And.intro @beq_eq_false_iff_ne.{0} (And.intro @ne_eq.{1} (And.intro @Bool.true_eq_false (And.intro @Bool.false_eq_true (And.intro @cond_true.{1} (@cond_false.{1}))))))))))))))))))))))))))))))))))))))))))))))))))
abbrev FF:Prop:=False→False
section
variable {A:Alg}
theorem lenOf {α:Type} {f:α→List D} {l:List α} {d:D} (h:d=encL f l):∃ n,n=l.length∧Std.len d=Int.ofNat n:=⟨_,rfl,by rw [h,Std_len];rfl⟩
end
end Go.VC
end
