/- Part 3 of the common texts: E12b E12c E13 E14 EP ES EQ EX ER EL EV. -/
import Derived.Laws.StructEq
import Derived.ChangeArms
import Derived.ChangeShapes
import Derived.ChangeSame
import Derived.Carry
import Derived.JoinedCond
import Derived.Shelf.Strings.Builder1
import Derived.Test.YtlpanbeeckdbpaaGreatDoorPart2
set_option linter.all false
set_option maxRecDepth 100000
set_option maxHeartbeats 16000000

section
namespace Go.VC
open Go
section
variable {P:Program} {tt:TypeId→Option TI} {G:Cfg} {B:Base} {E:List RI} {Pp:Per} {objs:List Ob} {w:World} {st:St} {a:Act}
theorem mem_readyR (L:Nat):∀ (r:List (Nat×Nat×Oper)) (j:Nat) (o:Oper),(j,o)∈readyR L r↔∃ m,(j,m,o)∈r∧isIn m L=true
 |[],j,o=>by simp [readyR]
 |(i,m,x)::r,j,o=>by
  have ih:=mem_readyR L r j o
  simp only [readyR]
  cases hm:isIn m L with
  |true=>
   simp only [cond_true,List.mem_cons,Prod.mk.injEq,ih]
   constructor
   ·rintro (⟨rfl,rfl⟩|⟨m',h,h'⟩)
    ·exact ⟨m,.inl ⟨rfl,rfl,rfl⟩,hm⟩
    ·exact ⟨m',.inr h,h'⟩
   ·rintro ⟨m',⟨rfl,rfl,rfl⟩|h,h'⟩
    ·exact .inl ⟨rfl,rfl⟩
    ·exact .inr ⟨m',h,h'⟩
  |false=>
   simp only [cond_false,List.mem_cons,Prod.mk.injEq,ih]
   constructor
   ·rintro ⟨m',h,h'⟩;exact ⟨m',.inr h,h'⟩
   ·rintro ⟨m',⟨rfl,rfl,rfl⟩|h,h'⟩
    ·rw [hm] at h';cases h'
    ·exact ⟨m',h,h'⟩
theorem bit_or (L i j:Nat):(Nat.lor L (Nat.shiftLeft 1 i)).testBit j=(L.testBit j||decide (i=j)):=by
 show (L ||| (1 <<< i)).testBit j=_
 rw [Nat.testBit_or,Nat.shiftLeft_eq,Nat.one_mul,Nat.testBit_two_pow]
theorem maskE_bit (l:List Edge) (k:Nat):(maskE l).testBit k=l.any (fun e=>isBind e&&decide (e.on=k)):=by
 induction l with
 |nil=>simp [maskE]
 |cons e l ih=>
  simp only [maskE,List.any_cons]
  cases hb:isBind e with
  |true=>
   simp only [cond_true,Bool.true_and]
   show ((1 <<< e.on) ||| maskE l).testBit k=_
   rw [Nat.testBit_or,Nat.shiftLeft_eq,Nat.one_mul,Nat.testBit_two_pow,ih]
  |false=>simpa using ih
theorem isIn_iff (m L:Nat):isIn m L=true↔∀ k,m.testBit k=true→L.testBit k=true:=by
 unfold isIn
 constructor
 ·intro h k hk
  have h:=nb_of h
  have h2:(m &&& L).testBit k=true:=by
   show (Nat.land m L).testBit k=true
   rw [h];exact hk
  rw [Nat.testBit_and] at h2
  simp only [Bool.and_eq_true] at h2
  exact h2.2
 ·intro h
  have:Nat.land m L=m:=by
   apply Nat.eq_of_testBit_eq
   intro k
   show (m &&& L).testBit k=_
   rw [Nat.testBit_and]
   cases hm:m.testBit k with
   |false=>rfl
   |true=>rw [h k hm];rfl
  rw [this];exact nb_refl m
theorem isBind_eq (e:Edge):Region.binds .any e=isBind e:=by
 unfold Region.binds isBind
 cases e.ground<;>rfl
structure Listed (all:Array Oper) (rest:List (Nat×Nat×Oper)) (L:Nat) (listed:Array Bool):Prop where
 size:listed.size=all.size
 bit:∀ i,i<all.size→listed.getD i true=L.testBit i
 low:∀ i,L.testBit i=true→i<all.size
 mem:∀ i m o,(i,m,o)∈rest↔all[i]? =some o∧L.testBit i=false∧m=maskE o.after.toList
 nodup:(rest.map (·.1)).Nodup
 cl:∀ j o,all[j]? =some o→L.testBit j=true→∀ e∈o.after,Region.binds .any e=true→L.testBit e.on=true
theorem Listed.get {all:Array Oper} {rest:List (Nat×Nat×Oper)} {L:Nat} {listed:Array Bool} (h:Listed all rest L listed) (i:Nat):listed.getD i false=L.testBit i:=by
 by_cases hi:i<all.size
 ·have:=h.bit i hi
  rw [Array.getD_eq_getD_getElem?] at this ⊢
  have hs:i<listed.size:=by rw [h.size];exact hi
  simp [hs] at this ⊢;exact this
 ·have:L.testBit i=false:=by
   cases hm:L.testBit i with
   |false=>rfl
   |true=>exact absurd (h.low i hm) hi
  rw [this,Array.getD_eq_getD_getElem?,Array.getElem?_eq_none (by rw [h.size];omega)];rfl
theorem ready_iff {all:Array Oper} {rest:List (Nat×Nat×Oper)} {L:Nat} {listed:Array Bool} (h:Listed all rest L listed) (j:Nat):j∈Region.ready .any all listed↔∃ o,(j,o)∈readyR L rest:=by
 rw [mem_ready]
 constructor
 ·rintro ⟨h1,o,ho,h2⟩
  have hj:j<all.size:=(Array.getElem?_eq_some_iff.1 ho).1
  refine ⟨o,(mem_readyR L rest j o).2 ⟨_,(h.mem j _ o).2 ⟨ho,by rw [← h.bit j hj];exact h1,rfl⟩,?_⟩⟩
  rw [isIn_iff]
  intro k hk
  rw [maskE_bit,List.any_eq_true] at hk
  obtain ⟨e,he,hb⟩:=hk
  simp only [Bool.and_eq_true,decide_eq_true_eq] at hb
  have:=h2 e (by simpa using he) (by rw [isBind_eq];exact hb.1)
  rw [h.get,hb.2] at this
  exact this
 ·rintro ⟨o,ho⟩
  obtain ⟨m,h1,h2⟩:=(mem_readyR L rest j o).1 ho
  obtain ⟨h3,h4,rfl⟩:=(h.mem j m o).1 h1
  have hj:j<all.size:=(Array.getElem?_eq_some_iff.1 h3).1
  refine ⟨by rw [h.bit j hj];exact h4,o,h3,?_⟩
  intro e he hb
  rw [h.get]
  rw [isIn_iff] at h2
  refine h2 e.on ?_
  rw [maskE_bit,List.any_eq_true]
  rw [isBind_eq] at hb
  exact ⟨e,by simpa using he,by simp [hb]⟩
theorem mem_dropR (i:Nat):∀ (r:List (Nat×Nat×Oper)),(r.map (·.1)).Nodup→∀ j m o,((j,m,o)∈dropR i r↔(j,m,o)∈r∧j≠i)
 |[],_,j,m,o=>by simp [dropR]
 |(k,m',x)::r,hn,j,m,o=>by
  simp only [List.map_cons,List.nodup_cons] at hn
  have ih:=mem_dropR i r hn.2 j m o
  simp only [dropR]
  cases hb:nb k i with
  |true=>
   have:=nb_of hb
   subst this
   simp only [cond_true,List.mem_cons,Prod.mk.injEq]
   constructor
   ·intro h
    refine ⟨.inr h,?_⟩
    rintro rfl
    exact hn.1 (List.mem_map.2 ⟨_,h,rfl⟩)
   ·rintro ⟨⟨rfl,_⟩|h,hne⟩
    ·exact absurd rfl hne
    ·exact h
  |false=>
   have hki:k≠i:=by rintro rfl;rw [nb_refl] at hb;cases hb
   simp only [cond_false,List.mem_cons,Prod.mk.injEq,ih]
   constructor
   ·rintro (⟨rfl,rfl,rfl⟩|⟨h,hne⟩)
    ·exact ⟨.inl ⟨rfl,rfl,rfl⟩,hki⟩
    ·exact ⟨.inr h,hne⟩
   ·rintro ⟨⟨rfl,rfl,rfl⟩|h,hne⟩
    ·exact .inl ⟨rfl,rfl,rfl⟩
    ·exact .inr ⟨h,hne⟩
theorem dropR_sub (i:Nat):∀ (r:List (Nat×Nat×Oper)),List.Sublist ((dropR i r).map (·.1)) (r.map (·.1))
 |[]=>by simp [dropR]
 |(k,m',x)::r=>by
  simp only [dropR]
  cases nb k i with
  |true=>simp
  |false=>simpa using dropR_sub i r
theorem Listed.push {all:Array Oper} {rest:List (Nat×Nat×Oper)} {L:Nat} {listed:Array Bool} (h:Listed all rest L listed) {i:Nat} (hi:i<all.size) (hrd:i∈Region.ready .any all listed):Listed all (dropR i rest) (Nat.lor L (Nat.shiftLeft 1 i)) (listed.setIfInBounds i true):=by
 refine ⟨by simp [h.size],?_,?_,?_,(dropR_sub i rest).nodup h.nodup,?_⟩
 ·intro j hj
  rw [bit_or]
  by_cases hij:i=j
  ·subst hij
   have:i<listed.size:=by rw [h.size];exact hi
   simp [this]
  ·rw [getD_set_ne true hij,h.bit j hj];simp [hij]
 ·intro j hj
  rw [bit_or] at hj
  simp only [Bool.or_eq_true,decide_eq_true_eq] at hj
  rcases hj with hj|rfl
  ·exact h.low j hj
  ·exact hi
 ·intro j m o
  rw [mem_dropR i rest h.nodup,h.mem,bit_or]
  constructor
  ·rintro ⟨⟨h1,h2,h3⟩,hne⟩
   exact ⟨h1,by simp [h2];omega,h3⟩
  ·rintro ⟨h1,h2,h3⟩
   simp only [Bool.or_eq_false_iff,decide_eq_false_iff_not] at h2
   exact ⟨⟨h1,h2.1,h3⟩,by omega⟩
 ·intro j o ho hj e he hb
  rw [bit_or] at hj ⊢
  simp only [Bool.or_eq_true,decide_eq_true_eq] at hj ⊢
  left
  rcases hj with hj|rfl
  ·exact h.cl j o ho hj e he hb
  ·obtain ⟨_,o2,ho2,hall⟩:=mem_ready.1 hrd
   rw [ho] at ho2;cases ho2
   rw [← h.get];exact hall e he hb
theorem prepR_mem:∀ (l:List Oper) (k:Nat) (i m:Nat) (o:Oper),(i,m,o)∈prepR k l↔∃ j,l[j]? =some o∧i=k+j∧m=maskE o.after.toList
 |[],k,i,m,o=>by simp [prepR]
 |x::l,k,i,m,o=>by
  simp only [prepR,List.mem_cons,Prod.mk.injEq,prepR_mem l (k+1) i m o]
  constructor
  ·rintro (⟨rfl,rfl,rfl⟩|⟨j,h1,h2,h3⟩)
   ·exact ⟨0,rfl,by omega,rfl⟩
   ·exact ⟨j+1,by simpa using h1,by omega,h3⟩
  ·rintro ⟨j,h1,h2,h3⟩
   cases j with
   |zero=>simp at h1;subst h1;exact .inl ⟨by omega,h3,rfl⟩
   |succ j=>exact .inr ⟨j,by simpa using h1,by omega,h3⟩
theorem prepR_low:∀ (l:List Oper) (k:Nat) i,i∈(prepR k l).map (·.1)→k≤i
 |[],k,i,h=>by simp [prepR] at h
 |x::l,k,i,h=>by
  simp only [prepR,List.map_cons,List.mem_cons] at h
  rcases h with rfl|h
  ·exact Nat.le_refl _
  ·have:=prepR_low l (k+1) i h;omega
theorem prepR_nodup:∀ (l:List Oper) (k:Nat),((prepR k l).map (·.1)).Nodup
 |[],_=>by simp [prepR]
 |x::l,k=>by
  simp only [prepR,List.map_cons,List.nodup_cons]
  refine ⟨fun h=> ?_,prepR_nodup l (k+1)⟩
  have:=prepR_low l (k+1) k h
  omega
theorem Listed.start (all:Array Oper):Listed all (prepR 0 all.toList) 0 (Array.replicate all.size false):=by
 refine ⟨by simp,fun i hi=>by simp [hi],fun i hi=>by simp at hi,?_,prepR_nodup _ _,fun j o ho hj=>by simp at hj⟩
 intro i m o
 rw [prepR_mem]
 constructor
 ·rintro ⟨j,h1,h2,h3⟩
  have:i=j:=by omega
  subst this
  exact ⟨by simpa using h1,by simp,h3⟩
 ·rintro ⟨h1,_,h3⟩
  exact ⟨i,by simpa using h1,by omega,h3⟩
theorem firstR_some {L:Nat}:∀ {r:List (Nat×Nat×Oper)} {i:Nat} {o:Oper},firstR G L r=some (i,o)→(i,o)∈readyR L r∧isFl G o=true
 |[],i,o,h=>by simp [firstR] at h
 |(k,m,x)::r,i,o,h=>by
  simp only [firstR] at h
  simp only [readyR]
  cases hf:(isFl G x&&isIn m L) with
  |true=>
   rw [hf] at h;simp at h
   obtain ⟨rfl,rfl⟩:=h
   simp only [Bool.and_eq_true] at hf
   rw [hf.2]
   exact ⟨by simp,hf.1⟩
  |false=>
   rw [hf] at h
   obtain ⟨h1,h2⟩:=firstR_some h
   refine ⟨?_,h2⟩
   cases isIn m L with
   |true=>simp [h1]
   |false=>simpa using h1
theorem allP_mem {f:Nat→Oper→Prop}:∀ {l:List (Nat×Oper)} {i:Nat} {o:Oper},allP f l→(i,o)∈l→f i o
 |[],_,_,_,h=>by simp at h
 |[x],i,o,h,hm=>by simp at hm;subst hm;exact h
 |x::y::l,i,o,h,hm=>by
  rcases List.mem_cons.1 hm with rfl|hm
  ·exact h.1
  ·exact allP_mem h.2 hm
theorem pairsOk_get {ops:Array Oper} {i:Nat} {oi:Oper} {Z:List Nat}:∀ {l:List Oper} {k:Nat},pairsOk G ops i oi Z k l=true→∀ (j:Nat) oj,l[j]? =some oj→
 (i=k+j→∀ d,oi.dst=some d→d∉oi.looksAt ops)∧(i≠k+j→memL (k+j) Z=true∨memE (k+j) oi=true∨(Oper.apart ops oi oj=true∧quietG G oj.op=true))
 |[],_,_,j,oj,h=>by simp at h
 |x::l,k,h,j,oj,hj=>by
  simp only [pairsOk,Bool.and_eq_true] at h
  obtain ⟨h1,h2⟩:=h
  cases j with
  |succ j=>
   have:=pairsOk_get h2 j oj (by simpa using hj)
   rwa [show k+1+j=k+(j+1) by omega] at this
  |zero=>
   simp at hj;subst hj
   refine ⟨?_,?_⟩
   ·intro hik d hd hm
    have:nb i k=true:=by rw [nb_eq];omega
    rw [this,hd] at h1
    simp only [cond_true] at h1
    rw [(memL_eq _ _).2 hm] at h1
    cases h1
   ·intro hik
    have:nb i k=false:=by
     cases hb:nb i k with
     |false=>rfl
     |true=>exact absurd (nb_of hb) (by omega)
    rw [this] at h1
    simp only [cond_false] at h1
    cases ha:memL k Z with
    |true=>exact .inl (by simpa using ha)
    |false=>
     rw [ha] at h1
     simp only [cond_false] at h1
     cases hb:memE k oi with
     |true=>exact .inr (.inl (by simpa using hb))
     |false=>
      rw [hb] at h1
      simp only [cond_false,Bool.and_eq_true] at h1
      exact .inr (.inr h1)
theorem drawOk_get {ops:Array Oper} {all:List Oper}:∀ {l:List Oper} {k:Nat},drawOk G ops all k l=true→∀ (j:Nat) oj,l[j]? =some oj→
 isSel oj.op=false∧(isFl G oj=true→pairsOk G ops (k+j) oj (behind (k+j) 0 [] all) 0 all=true)
 |[],_,_,j,oj,h=>by simp at h
 |x::l,k,h,j,oj,hj=>by
  simp only [drawOk,Bool.and_eq_true] at h
  obtain ⟨h1,h2⟩:=h
  cases j with
  |succ j=>
   have:=drawOk_get h2 j oj (by simpa using hj)
   rwa [show k+1+j=k+(j+1) by omega] at this
  |zero=>
   simp at hj;subst hj
   cases hs:isSel x.op with
   |true=>rw [hs] at h1;cases h1
   |false=>
    refine ⟨rfl,fun hf=> ?_⟩
    rw [hs,hf] at h1
    exact h1
theorem memE_iff {i:Nat} {o:Oper}:memE i o=true↔∃ e∈o.after,Region.binds .any e=true∧e.on=i:=by
 unfold memE
 rw [anyL_eq,List.any_eq_true]
 constructor
 ·rintro ⟨e,he,h⟩
  simp only [Bool.and_eq_true] at h
  exact ⟨e,by simpa using he,by rw [isBind_eq];exact h.1,nb_of h.2⟩
 ·rintro ⟨e,he,h1,h2⟩
  exact ⟨e,by simpa using he,by rw [isBind_eq] at h1;simp [h1,h2]⟩
theorem behind_sub {i:Nat}:∀ (l:List Oper) (k:Nat) (acc:List Nat),∀ z∈acc,z∈behind i k acc l
 |[],_,acc,z,hz=>hz
 |o::l,k,acc,z,hz=>by
  simp only [behind]
  refine behind_sub l (k+1) _ z ?_
  cases anyL (fun e=>isBind e&&(bif nb e.on i then true else memL e.on acc)) o.after.toList with
  |true=>exact List.mem_cons_of_mem _ hz
  |false=>exact hz
theorem behind_spec {i:Nat} {all:List Oper}:∀ (l:List Oper) (k:Nat) (acc:List Nat),(∀ j,l[j]? =all[k+j]?)→
 (∀ z∈acc,∀ oz,all[z]? =some oz→∃ e∈oz.after,Region.binds .any e=true∧(e.on=i∨e.on∈behind i k acc l))→
 ∀ z∈behind i k acc l,∀ oz,all[z]? =some oz→∃ e∈oz.after,Region.binds .any e=true∧(e.on=i∨e.on∈behind i k acc l)
 |[],k,acc,hl,ha,z,hz,oz,ho=>ha z hz oz ho
 |o::l,k,acc,hl,ha,z,hz,oz,ho=>by
  simp only [behind] at ha hz ⊢
  refine behind_spec l (k+1) _ (fun j=>by have:=hl (j+1);rw [show k+1+j=k+(j+1) by omega];simpa using this) ?_ z hz oz ho
  cases hb:anyL (fun e=>isBind e&&(bif nb e.on i then true else memL e.on acc)) o.after.toList with
  |false=>rw [hb] at ha;exact ha
  |true=>
   rw [hb] at ha
   intro z hz oz ho
   rcases List.mem_cons.1 hz with rfl|hz
   ·have h0:=hl 0
    rw [Nat.add_zero,ho] at h0
    simp at h0;subst h0
    rw [anyL_eq,List.any_eq_true] at hb
    obtain ⟨e,he,hb⟩:=hb
    simp only [Bool.and_eq_true] at hb
    refine ⟨e,by simpa using he,by rw [isBind_eq];exact hb.1,?_⟩
    cases hn:nb e.on i with
    |true=>exact .inl (nb_of hn)
    |false=>
     rw [hn] at hb
     exact .inr (behind_sub _ _ _ _ (List.mem_cons_of_mem _ ((memL_eq _ _).1 hb.2)))
   ·exact ha z hz oz ho
theorem behind_un {i:Nat} {all:Array Oper} {rest:List (Nat×Nat×Oper)} {L:Nat} {listed:Array Bool} (h:Listed all rest L listed) (hi:L.testBit i=false):∀ (l:List Oper) (k:Nat) (acc:List Nat),(∀ j,l[j]? =all[k+j]?)→(∀ z∈acc,L.testBit z=false)→∀ z∈behind i k acc l,L.testBit z=false
 |[],k,acc,hl,ha,z,hz=>ha z hz
 |o::l,k,acc,hl,ha,z,hz=>by
  simp only [behind] at hz
  refine behind_un h hi l (k+1) _ (fun j=>by have:=hl (j+1);rw [show k+1+j=k+(j+1) by omega];simpa using this) ?_ z hz
  cases hb:anyL (fun e=>isBind e&&(bif nb e.on i then true else memL e.on acc)) o.after.toList with
  |false=>exact ha
  |true=>
   intro z hz
   rcases List.mem_cons.1 hz with rfl|hz
   ·cases ht:L.testBit z with
    |false=>rfl
    |true=>
     exfalso
     rw [anyL_eq,List.any_eq_true] at hb
     obtain ⟨e,he,hb⟩:=hb
     simp only [Bool.and_eq_true] at hb
     have h0:all[z]? =some o:=by have:=hl 0;simpa using this.symm
     have h1:=h.cl z o h0 ht e (by simpa using he) (by rw [isBind_eq];exact hb.1)
     cases hn:nb e.on i with
     |true=>rw [nb_of hn,hi] at h1;cases h1
     |false=>
      rw [hn] at hb
      rw [ha _ ((memL_eq _ _).1 hb.2)] at h1;cases h1
   ·exact ha z hz
def Ag (tt:TypeId→Option TI) (E:List RI) (Pp:Per) (objs:List Ob) (w:World) (w2:World):Prop:=∀ ad v,Held tt E Pp objs w ad v→pc w2 ad=some v
theorem Ag.self (hw:WR tt E Pp objs w):Ag tt E Pp objs w w:=fun _ _ h=>h.cell hw
theorem noMaps_get:∀ (l:List Ob) (i:Nat),(noMaps l)[i]? =(l[i]?).map fun o=>match o with| .map _ _ _=>.dead| .iter _ _=>.dead| .diter _ _ _=>.dead| .loop _ _ _ _ _ _=>.dead|o=>o
 |[],i=>by simp [noMaps]
 |o::l,i=>by cases o<;>cases i<;>simp [noMaps,noMaps_get l]
theorem noMaps_box {i:Nat} {cs:List PV} (h:(noMaps objs)[i]? =some (.box cs)):objs[i]? =some (.box cs):=by
 rw [noMaps_get] at h
 cases hx:objs[i]? with
 |none=>rw [hx] at h;simp at h
 |some o=>rw [hx] at h;cases o<;>simp at h;rw [h]
theorem noMaps_row {i:Nat} {e:TypeId} {d:D} {wr:Bool} (h:(noMaps objs)[i]? =some (.row e d wr)):objs[i]? =some (.row e d wr):=by
 rw [noMaps_get] at h
 cases hx:objs[i]? with
 |none=>rw [hx] at h;simp at h
 |some o=>rw [hx] at h;cases o<;>simp at h;obtain ⟨rfl,rfl,rfl⟩:=h;rfl
theorem noMaps_map {i:Nat} {k:CK} {e:TypeId} {d:D} (h:(noMaps objs)[i]? =some (.map k e d)):False:=by
 rw [noMaps_get] at h
 cases hx:objs[i]? with
 |none=>rw [hx] at h;simp at h
 |some o=>rw [hx] at h;cases o<;>simp at h
theorem WR.rwAg (hw:WR tt E Pp objs w):RW tt E Pp (noMaps objs) (Ag tt E Pp objs w):=by
 refine ⟨?_,?_,?_,?_,?_,?_⟩
 ·intro w2 h2 ad v hv;exact h2 ad v (.inl hv)
 ·intro i cs b ho hE
  have ho:=noMaps_box ho
  obtain ⟨ri,hri,hor⟩:=hw.ob i _ ho rfl
  rw [hE] at hri;cases hri
  obtain ⟨vs,T,hb,hvs,_⟩:=hor
  refine ⟨vs,hvs,fun w2 h2 j v hj=>by rw [← pc_none];exact h2 _ _ (.inr ⟨by rw [cell_of_block hb];exact hj,i,.inl ⟨cs,ho,hE⟩⟩)⟩
 ·intro i e d wr ho hE
  have ho:=noMaps_row ho
  obtain ⟨ri,hri,hor⟩:=hw.ob i _ ho rfl
  rw [hE] at hri;cases hri
  exact hor
 ·intro i e d wr g o len cap ho hE
  have ho:=noMaps_row ho
  obtain ⟨ri,hri,hor⟩:=hw.ob i _ ho rfl
  rw [hE] at hri;cases hri
  obtain ⟨vs,T,rows,hb,hd,hl,hcap,hsz,hrow,_,_⟩:=hor
  exact ⟨vs,rows,hd,hl,hrow,fun w2 h2 j v hj _ hlt=>by rw [← pc_none];exact h2 _ _ (.inr ⟨by rw [cell_of_block hb];exact hj,i,.inr ⟨e,d,wr,o,len,cap,ho,hE,hlt⟩⟩)⟩
 ·intro i e d g o len cap ho hE
  have ho:=noMaps_row ho
  obtain ⟨ri,hri,hor⟩:=hw.ob i _ ho rfl
  rw [hE] at hri;cases hri
  exact OR.frz hor
 ·intro i kc e d b bs cl ho
  exact (noMaps_map ho).elim
def AgG (G:Cfg) (E:List RI) (Pp:Per) (objs:List Ob) (w:World) (w2:World):Prop:=match G.pers with
 |true=>∀ ad v,Pp ad v→pc w2 ad=some v
 |false=>Ag G.tt E Pp objs w w2
theorem AgG.self (hw:WR G.tt E Pp objs w):AgG G E Pp objs w w:=by
 unfold AgG
 split
 ·exact fun ad v h=>hw.pi _ _ h
 ·exact Ag.self hw
theorem deadO_get:∀ (l:List Ob) (i:Nat) (o:Ob),(deadO l)[i]? =some o→o= .dead
 |[],i,o,h=>by simp [deadO] at h
 |x::l,0,o,h=>by simp [deadO] at h;exact h.symm
 |x::l,i+1,o,h=>by simp [deadO] at h;exact deadO_get l i o h
theorem WR.rwAgG (hw:WR G.tt E Pp objs w):RW G.tt E Pp (viewO G objs) (AgG G E Pp objs w):=by
 unfold viewO AgG
 cases G.pers with
 |true=>
  refine ⟨fun w2 h2=>h2,?_,?_,?_,?_,?_⟩
  ·intro i cs b ho;cases deadO_get _ _ _ ho
  ·intro i e d wr ho;cases deadO_get _ _ _ ho
  ·intro i e d wr g o len cap ho;cases deadO_get _ _ _ ho
  ·intro i e d g o len cap ho;cases deadO_get _ _ _ ho
  ·intro i kc e d b bs cl ho;cases deadO_get _ _ _ ho
 |false=>exact hw.rwAg
theorem exi_op {ops:Array Oper} {Q:Exit→Act→World→Prop} {i:Nat} {K:Act→World→Prop} {a:Act} {w:World} {r:Option Nat} (h:wpOpIn (fen r) 0 P ops Q i K a w):(∃ e a w,Q e a w)∨∃ a w,K a w:=by
 unfold wpOpIn at h
 split at h
 ·exact .inr ⟨_,_,h⟩
 ·split at h
  ·rename_i o ho hw
   have h:=h.2
   generalize (o.semAt (fen r).round a.eval).run P w=x at h
   cases x with
   |ok x w'=>
    cases x with
    |value v=>exact .inr ⟨_,_,h⟩
    |skip=>exact .inr ⟨_,_,h⟩
    |defer d=>exact .inr ⟨_,_,h⟩
    |enter f args=>
     obtain ⟨e,w2,_,he,_⟩:=h.2.2 [] (room_fen _)
     cases e with
     |returned v=>exact .inr ⟨_,_,he⟩
     |panicked c=>exact .inl ⟨_,_,_,he⟩
     |outgrown=>obtain ⟨a,w,he⟩:=he;exact .inl ⟨_,_,_,he⟩
    |row row args=>
     obtain ⟨v,w2,he,_⟩:=h.2 default [] (room_fen _)
     exact .inr ⟨_,_,he⟩
    |round l f tmps assign body=>
     obtain ⟨e,w2,he,_⟩:=h.2.2 default [] (room_fen _)
     cases e with
     |returned v=>exact .inr ⟨_,_,he⟩
     |panicked c=>exact .inl ⟨_,_,_,he⟩
     |outgrown=>obtain ⟨a,w,he⟩:=he;exact .inl ⟨_,_,_,he⟩
    |_=>exact h.elim
   |halt s w'=>
    cases s with
    |panic v=>exact .inl ⟨_,_,_,h⟩
    |_=>exact h.elim
  ·exact .inr ⟨_,_,h.2⟩
theorem exi_any {md:Region.Mode} {ops:Array Oper} {Q:Exit→Act→World→Prop} {r:Option Nat}:∀ (k:Nat) (listed:Array Bool) (a:Act) (w:World),wpAnyIn (fen r) 0 P md ops Q k listed a w→∃ e a w,Q e a w
 |0,_,_,_,h=>⟨_,_,_,h.2⟩
 |k+1,listed,a,w,h=>by
  cases hr:Region.ready md ops listed with
  |nil=>exact ⟨_,_,_,h.1 hr⟩
  |cons i l=>
   rcases exi_op (h.2 i (by rw [hr];simp)) with h1|⟨a',w',h1⟩
   ·exact h1
   ·exact exi_any k _ a' w' h1
theorem Sim.pick {tt:TypeId→Option TI} {N n0:Nat} {ps:List Nat} (hb:B.E0.length=n0) (h:Sim tt N B E Pp st a w) (hok:(nodupL ps&&upTo n0 0 ps)=true):Sim tt N B (ps.map fun r=>E.getD r .row0) Pp (pickSt ps st) a w:=by
 simp only [Bool.and_eq_true] at hok
 have hnd:=nodupL_eq hok.1
 have hup:=upTo_ok hok.2
 obtain ⟨s,o⟩:=st
 refine ⟨h.wr.pick hnd,?_,h.size,h.defers,?_,h.per,h.fr,h.pnew,?_⟩
 ·intro t
  show VR tt _ Pp _ (look (pickS ps s) t)
  rw [pickS_look]
  exact pickP_ok (fun _ _ _=>pick_ix) 8 _ _ (h.slots t)
 ·intro i x hx
  have hi:i<n0:=by
   rw [← hb]
   exact (List.getElem?_eq_some_iff.1 hx).1
  have:=hup i hi
  rw [Nat.zero_add] at this
  rcases h.pre i x hx with h1|⟨b,n,c,n',c',rfl,h1⟩
  ·exact .inl (pick_E this h1)
  ·exact .inr ⟨b,n,c,n',c',rfl,pick_E this h1⟩
 ·intro i q ri b hq hl hEi hbk
  obtain ⟨r,o1,a1,a2,a3,a4⟩:=pick_blk h.wr hq hl hEi
  exact h.fresh r o1 ri b a2 a3 a4 hbk
theorem Sim.same {s1 s2:St} (hB:B.E0.length=G.n0) (h:Sim G.tt G.n B E Pp s2 a w) (hs:sameSt G.n0 s1 s2):∃ E',Sim G.tt G.n B E' Pp s1 a w:=by
 obtain ⟨s3,h3,hl,ho⟩:=hs
 have key:∀ {E'},Sim G.tt G.n B E' Pp s3 a w→Sim G.tt G.n B E' Pp s1 a w:=fun h=>
  ⟨by rw [ho];exact h.wr,fun t=>by rw [hl];exact h.slots t,h.size,h.defers,h.pre,h.per,h.fr,h.pnew,by rw [ho];exact h.fresh⟩
 rcases h3 with rfl|⟨ps,hok,rfl⟩
 ·exact ⟨_,key h⟩
 ·exact ⟨_,key (h.pick hB hok)⟩
theorem anyR_ok {r0:Option Nat} (htt:TtOk P G.tt) (hB:B.E0.length=G.n0) {all:Array Oper} (hok:drawOk G all all.toList 0 all.toList=true) {Q:St→Prop} {Q':Exit→Act→World→Prop} (hQ:∀ E Pp st a w,Sim G.tt G.n B E Pp st a w→Q st→Q' .normal a w) (hQp:∀ c a w,¬Q' (.panic c) a w):
 ∀ (n:Nat) (rest:List (Nat×Nat×Oper)) (L:Nat) (listed:Array Bool) (st:St) (E:List RI) (Pp:Per) (a:Act) (w:World),Listed all rest L listed→Sim G.tt G.n B E Pp st a w→anyR std G (FCx P G.tt) all.toList n rest L st Q→
  wpAnyJ r0 P all (fun i=>match all[i]? with|some o=> !quietG G o.op|none=>false) Q' (AgG G E Pp st.o w) n listed a w:=by
 have hsel:∀ (j:Nat) (o:Oper) cs b,all[j]? =some o→o.op≠ .select cs b:=by
  intro j o cs b ho he
  have:=(drawOk_get hok j o (by simpa using ho)).1
  rw [he] at this;cases this
 have hnd:∀ (j:Nat) (o:Oper) c,all[j]? =some o→o.op≠ .defer c:=by
  intro j o c ho he
  have:=(drawOk_get hok j o (by simpa using ho)).1
  rw [he] at this;cases this
 intro n
 induction n generalizing Q Q' with
 |zero=>
  intro rest L listed st E Pp a w hl h hr
  simp only [anyR] at hr
  split at hr
  ·rename_i hrd
   refine ⟨AgG.self h.wr,?_,hQ _ _ _ _ _ h hr⟩
   apply List.eq_nil_iff_forall_not_mem.2
   intro j hj
   obtain ⟨o,ho⟩:=(ready_iff hl j).1 hj
   rw [hrd] at ho;simp at ho
  ·exact hr.elim
 |succ n ih=>
  intro rest L listed st E Pp a w hl h hr
  simp only [anyR] at hr
  split at hr
  ·-- a float
    rename_i i' o hf
    obtain ⟨hmem,hflt⟩:=firstR_some hf
    have hready:=(ready_iff hl i').2 ⟨o,hmem⟩
    obtain ⟨mk,hmk,_⟩:=(mem_readyR L rest i' o).1 hmem
    have h1:all.toList[i']? =some o:=by simpa using ((hl.mem i' mk o).1 hmk).1
    have hio:all[i']? =some o:=by simpa using h1
    have hsz:i'<all.size:=(Array.getElem?_eq_some_iff.1 hio).1
    have hp:=(drawOk_get hok i' o h1).2 hflt
    rw [Nat.zero_add] at hp
    have hpg:=pairsOk_get hp
    have hqi:quietOp (G.keep,G.live) o.op=true:=(isFl_fltQ hflt).2
    have hflt:=isFl_flt hflt
    have hqi:quietG G o.op=true:=by
     unfold quietG;split
     ·rfl
     ·exact hqi
    have hu:L.testBit i'=false:=((hl.mem i' mk o).1 hmk).2.1
    have hZ1:∀ z∈behind i' 0 [] all.toList,listed.getD z false=false:=fun z hz=>by
     rw [hl.get];exact behind_un hl hu all.toList 0 [] (fun j=>by simp) (by simp) z hz
    have hZ2:∀ z∈behind i' 0 [] all.toList,∀ oz,all[z]? =some oz→∃ e∈oz.after,Region.binds .any e=true∧(e.on=i'∨e.on∈behind i' 0 [] all.toList):=fun z hz oz ho=>
     behind_spec (all:=all.toList) all.toList 0 [] (fun j=>by simp) (by simp) z hz oz (by simpa using ho)
    have hfree:∀ j oj,all[j]? =some oj→j≠i'→listed.getD j true=false→j∉behind i' 0 [] all.toList→o.apart all oj=true∧(match all[j]? with|some o=> !quietG G o.op|none=>false)=false:=by
     intro j oj hj hne hun hno
     have hg:=(hpg j oj (by simpa using hj)).2 (by omega)
     rw [Nat.zero_add] at hg
     rcases hg with hg|hg|⟨hg1,hg2⟩
     ·exact absurd ((memL_eq _ _).1 hg) hno
     ·obtain ⟨e,he,hb,heq⟩:=memE_iff.1 hg
      obtain ⟨_,o2,ho2,hall⟩:=mem_ready.1 hready
      rw [hio] at ho2;cases ho2
      have:=hall e he hb
      rw [heq] at this
      exfalso
      have hjs:j<listed.size:=by rw [hl.size];exact (Array.getElem?_eq_some_iff.1 hj).1
      rw [Array.getD_eq_getD_getElem?] at this hun
      simp [hjs] at this hun
      rw [this] at hun;cases hun
     ·exact ⟨hg1,by rw [hj];simp [hg2]⟩
    have hself:=(hpg i' o h1).1 (by omega)
    have hD:(match all[i']? with|some o=> !quietG G o.op|none=>false)=false:=by rw [hio];simp [hqi]
    have hagrw:=h.wr.rwAgG (G:=G)
    -- what it comes to
    have go:∀ v st'',Sim G.tt G.n B E Pp st'' (a.put o.dst v) w→st''.o=st.o→anyR std G (FCx P G.tt) all.toList n (dropR i' rest) (Nat.lor L (Nat.shiftLeft 1 i')) st'' Q→YieldsJ P all (AgG G E Pp st.o w) o v a→
     wpAnyJ r0 P all (fun i=>match all[i]? with|some o=> !quietG G o.op|none=>false) Q' (AgG G E Pp st.o w) (n+1) listed a w:=by
     intro v st'' h5 h6 h7 h8
     have h9:=ih hQ hQp _ _ (listed.setIfInBounds i' true) st'' E Pp _ w (hl.push hsz hready) h5 h7
     rw [h6] at h9
     exact wpAnyJ_first hio hsel hnd hQp hD hself (behind i' 0 [] all.toList) hZ2 n listed a w hZ1 hfree hready h8 (AgG.self h.wr) h9
    have run:∀ st1,Sim G.tt G.n B E Pp st1 a w→st1.o=st.o→pureOp std G.tt o.op o.type st1.s (viewO G st1.o) (fun v=>putK G o.dst v st1 (fun st'=>anyR std G (FCx P G.tt) all.toList n (dropR i' rest) (Nat.lor L (Nat.shiftLeft 1 i')) st' Q))→Region.wanted o (yielded all a.tmps)=true→
     wpAnyJ r0 P all (fun i=>match all[i]? with|some o=> !quietG G o.op|none=>false) Q' (AgG G E Pp st.o w) (n+1) listed a w:=by
     intro st1 h5 h6 h7 h8
     rw [h6] at h7
     obtain ⟨v,pv,hrun,hv,hK⟩:=pureOp_ok htt hagrw h5.slots h7
     obtain ⟨st'',q1,q2,q3⟩:=put_sim h5.size h5.defers hv h5.slots h5.toW hK
     exact go v st'' q1 (q3.trans h6) q2 (.inl ⟨h8,hrun⟩)
    have skip:∀ st1,Sim G.tt G.n B E Pp st1 a w→st1.o=st.o→putK G o.dst (.tup []) st1 (fun st'=>anyR std G (FCx P G.tt) all.toList n (dropR i' rest) (Nat.lor L (Nat.shiftLeft 1 i')) st' Q)→Region.wanted o (yielded all a.tmps)=false→
     wpAnyJ r0 P all (fun i=>match all[i]? with|some o=> !quietG G o.op|none=>false) Q' (AgG G E Pp st.o w) (n+1) listed a w:=by
     intro st1 h5 h6 h7 h8
     obtain ⟨st'',q1,q2,q3⟩:=put_sim (v:=undef) h5.size h5.defers (.tup [] [] .nil) h5.slots h5.toW h7
     exact go undef st'' q1 (q3.trans h6) q2 (.inr ⟨h8,rfl⟩)
    unfold guarded at hr
    split at hr
    ·rename_i hgd
     exact run st h rfl hr (by unfold Region.wanted;rw [hgd])
    ·rename_i j want hgd
     split at hr
     ·exact hr.elim
     rename_i oj hj
     rw [nthOp_eq] at hj
     have hj':all[j]? =some oj:=by simpa using hj
     split at hr
     ·exact hr.elim
     rename_i dj hdj
     split at hr
     ·rename_i b hlk
      have hwt:=wanted_of hgd hj' hdj h hlk (.inl rfl)
      cases hb:bEq b want with
      |true=>rw [hb] at hr hwt;exact run st h rfl hr hwt
      |false=>rw [hb] at hr hwt;exact skip st h rfl hr hwt
     ·rename_i b hlk
      have hwt:=wanted_of hgd hj' hdj h hlk (.inr rfl)
      cases hb:bEq b want with
      |true=>
       have hbe:=bEq_eq.1 hb
       rw [hb] at hwt
       exact run _ (set_bool h hlk hbe) rfl (hr.1 hbe) hwt
      |false=>
       have hbe:b=bNot want:=by
        clear hr hfree hpg hself hD run skip go ih
        rw [bNot_eq];cases b<;>cases want<;>first|rfl|(simp [bEq] at hb)
       rw [hb] at hwt
       exact skip _ (set_bool h hlk hbe) rfl (hr.2 hbe) hwt
     ·rename_i hlk
      exact skip st h rfl hr (wanted_undef hgd hj' hdj h hlk)
     ·exact hr.elim
  ·split at hr
   ·rename_i hrd
    have hnil:Region.ready .any all listed=[]:=by
     apply List.eq_nil_iff_forall_not_mem.2
     intro j hj
     obtain ⟨o,ho⟩:=(ready_iff hl j).1 hj
     rw [hrd] at ho;simp at ho
    exact ⟨AgG.self h.wr,fun _=>hQ _ _ _ _ _ h hr,fun i hi=>by rw [hnil] at hi;cases hi⟩
   ·-- every other one
    rename_i r rs hrd
    have step:∀ {Q1:St→Prop} {Q1':Exit→Act→World→Prop},(∀ E Pp st a w,Sim G.tt G.n B E Pp st a w→Q1 st→Q1' .normal a w)→(∀ c a w,¬Q1' (.panic c) a w)→∀ i' o,i'∈Region.ready .any all listed→all[i']? =some o→
     guarded G all.toList o st (fun st K=>stepC std G (FCx P G.tt) o st K) (fun st'=>anyR std G (FCx P G.tt) all.toList n (dropR i' rest) (Nat.lor L (Nat.shiftLeft 1 i')) st' Q1)→
     wpOpIn (fen r0) 0 P all Q1' i' (fun a' w'=>if (match all[i']? with|some o=> !quietG G o.op|none=>false)=true then wpAnyIn (fen r0) 0 P .any all Q1' n (listed.setIfInBounds i' true) a' w' else wpAnyJ r0 P all (fun i=>match all[i]? with|some o=> !quietG G o.op|none=>false) Q1' (AgG G E Pp st.o w) n (listed.setIfInBounds i' true) a' w') a w:=by
     intro Q1 Q1' hQ1 hQp1 i' o hi hio hg
     have hsz:i'<all.size:=(Array.getElem?_eq_some_iff.1 hio).1
     refine guarded_wp hB hio ?_ ?_ h hg
     ·intro st1 h5 h6 hc _
      refine Oper.wpIn_mono ?_ (stepC_ok htt hB h5.toW h5.slots hc)
      rintro a' w' ⟨st',E',Pp',v,pv,rfl,hv,hs,hw,hK,hH,hM⟩
      obtain ⟨st'',q1,q2,q3⟩:=put_sim h5.size h5.defers hv hs hw hK
      have h9:=ih hQ1 hQp1 _ _ (listed.setIfInBounds i' true) st'' E' Pp' _ w' (hl.push hsz hi) q1 q2
      simp only [hio]
      cases hq:quietG G o.op with
      |false=>simp only [Bool.not_false,if_true];exact h9.any
      |true=>
       simp only [Bool.not_true,Bool.false_eq_true,if_false]
       refine h9.mono (fun w2 h2=> ?_)
       unfold AgG at h2 ⊢
       unfold quietG at hq
       cases hps:G.pers with
       |true=>rw [hps] at h2;exact fun ad u hu=>h2 ad u (hM ad u hu)
       |false=>
        rw [hps] at h2 hq
        intro ad u hu
        refine h2 ad u ?_
        rw [q3]
        rw [← h6] at hu
        exact hH hq ad u hu
     ·intro st'' q1 q2 _ q3
      have h9:=ih hQ1 hQp1 _ _ (listed.setIfInBounds i' true) st'' E Pp _ w (hl.push hsz hi) q1 q2
      rw [q3] at h9
      simp only [hio]
      cases hq:quietG G o.op with
      |false=>simp only [Bool.not_false,if_true];exact h9.any
      |true=>simp only [Bool.not_true,Bool.false_eq_true,if_false];exact h9
    have at_:∀ i' o,(i',o)∈readyR L rest→i'∈Region.ready .any all listed∧all[i']? =some o:=by
     intro i' o ho
     obtain ⟨mk,hmk,_⟩:=(mem_readyR L rest i' o).1 ho
     exact ⟨(ready_iff hl i').2 ⟨o,ho⟩,((hl.mem i' mk o).1 hmk).1⟩
    refine ⟨AgG.self h.wr,fun h0=> ?_,fun i' hi=> ?_⟩
    ·exfalso
     have:=(at_ r.1 r.2 (by rw [hrd];simp)).1
     rw [h0] at this;cases this
    ·obtain ⟨o,ho⟩:=(ready_iff hl i').1 hi
     have hio:=(at_ i' o ho).2
     rw [hrd] at ho
     split at hr
     ·obtain ⟨hr1,hr2⟩:=at_ r.1 r.2 (by rw [hrd];simp)
      rcases List.mem_cons.1 ho with rfl|hrs
      ·exact step (Q1':=Q') (fun E Pp st a w h1 h2=>hQ E Pp st a w h1 h2.2) hQp _ _ hr1 hr2 hr
      ·-- the first order shows a state in which all others end
       have hex:=step (Q1':=fun e _ _=>e= .normal∧∃ s1,allP (fun i o=>guarded G all.toList o st (fun st K=>stepC std G (FCx P G.tt) o st K) fun st'=>anyR std G (FCx P G.tt) all.toList n (dropR i rest) (Nat.lor L (Nat.shiftLeft 1 i)) st' fun s2=>sameSt G.n0 s1 s2) rs∧Q s1)
        (fun E Pp st a w h1 h2=>⟨rfl,st,h2⟩) (fun c a w h=>by cases h.1) _ _ hr1 hr2 hr
       have hs1:∃ s1,allP (fun i o=>guarded G all.toList o st (fun st K=>stepC std G (FCx P G.tt) o st K) fun st'=>anyR std G (FCx P G.tt) all.toList n (dropR i rest) (Nat.lor L (Nat.shiftLeft 1 i)) st' fun s2=>sameSt G.n0 s1 s2) rs∧Q s1:=by
        rcases exi_op hex with ⟨_,_,_,h1⟩|⟨a',w',h1⟩
        ·exact h1.2
        ·simp only [hr2] at h1
         split at h1
         ·obtain ⟨_,_,_,h2⟩:=exi_any _ _ _ _ h1;exact h2.2
         ·obtain ⟨_,_,_,h2⟩:=exi_any _ _ _ _ h1.any;exact h2.2
       obtain ⟨s1,hall,hq1⟩:=hs1
       exact step (Q1':=Q') (fun E Pp st a w h1 h2=>(h1.same hB h2).elim fun E' h3=>hQ E' Pp s1 a w h3 hq1) hQp _ _ hi hio (allP_mem hall hrs)
     ·exact step hQ hQp _ _ hi hio (allP_mem hr ho)
end
end Go.VC
end

section
namespace Go.VC
open Go
section
variable {P:Program} {G:Cfg} {B:Base} {E:List RI} {Pp:Per} {w:World} {st:St} {a:Act}
theorem PWp.of_core {tt:TypeId→Option TI} {N n0:Nat} {r:Option Nat} {c:Code} {st:St} {Q:Ex→St→Prop}
 (h:∀ B E Pp a w,B.E0.length=n0→Sim tt N B E Pp st a w→c.wpIn (fen r) 0 P (fun e a' w'=>∃ ex st' E' Pp',exOk e ex∧Sim tt N B E' Pp' st' a' w'∧Q ex st') a w):PWp P tt N n0 r c st Q:=by
 intro B E Pp a w hb hs
 refine wpIn_mono (h (B.here E Pp st.o a.defers w) E Pp a w hb hs.here) ?_
 rintro e a' w' ⟨ex,st',E',Pp',he,hs',hq⟩
 exact ⟨ex,st',E',Pp',he,hs.back (d2:=a'.defers) hs'.at,Mk.none hs'.defers,hs'.fr.size,hq⟩
theorem regP_ok {r:Option Nat} (htt:TtOk P G.tt) (hm:P.follows .mixedOrders=true) (id:Nat) (ops:Array Oper) (draw:Bool):∀ (st:St) (Q:Ex→St→Prop),regP std G (FCx P G.tt) id ops draw st (Q .normal)→PWp P G.tt G.n G.n0 r (.region id ops draw) st Q:=by
 intro st Q h
 refine PWp.of_core fun B E Pp a w hb hs=> ?_
 cases draw with
 |true=>
  refine wpIn_region_any hm ?_
  have hany:drawOk G ops ops.toList 0 ops.toList=true∧anyR std G (FCx P G.tt) ops.toList (lenL ops.toList) (prepR 0 ops.toList) 0 ⟨st.s,hurtO (cutRows st.s ops.toList ops.toList) 0 st.o⟩ (Q .normal):=by
   simp only [regP] at h
   split at h
   ·exact ⟨h.1 (fun h=>h),h.2⟩
   ·have h1:=h.1 (fun h=>h)
    simp only [Bool.and_eq_true] at h1
    refine ⟨h1.1,?_⟩
    rw [← linR_eq std G (FCx P G.tt) _ _ _ _ _ ?_ h1.2]
    ·exact h.2
    ·intro i m o hm
     obtain ⟨j,e1,e2,_⟩:=(prepR_mem _ _ _ _ _).1 hm
     rw [nthOp_eq,e2,Nat.zero_add];exact e1
  obtain ⟨h1,h2⟩:=hany
  have hd:Sim G.tt G.n B E (hurtP G.tt E st.o w Pp (cutRows st.s ops.toList ops.toList)) ⟨st.s,hurtO (cutRows st.s ops.toList ops.toList) 0 st.o⟩ a { w with drawn:=w.drawn+1 }:=by
   have:=(hs.toW.hurt (cutRows st.s ops.toList ops.toList)).drew
   exact SimW.sim (st:=⟨st.s,hurtO (cutRows st.s ops.toList ops.toList) 0 st.o⟩) this (fun t=>(hs.slots t).mono (fun _ _ h=>h) (fun _ _ h=>.inl h)) hs.size hs.defers
  have hl:=Listed.start ops
  rw [lenL_eq,Array.length_toList] at h2
  exact (anyR_ok (r0:=r) (B:=B) htt hb h1 (Q:=Q .normal) (Q':=fun e a' w'=>∃ ex st' E' Pp',exOk e ex∧Sim G.tt G.n B E' Pp' st' a' w'∧Q ex st')
   (fun E Pp st a w hs hq=>⟨.normal,st,E,Pp,trivial,hs,hq⟩) (by rintro c a w ⟨ex,_,_,_,h,_⟩;cases ex<;>exact h) ops.size _ _ _ _ E _ a _ hl hd h2).any
 |false=>
  refine wpIn_region ?_
  have:=runOps_ok (r:=r) (B:=B) htt hb (all:=ops) (Q:=Q .normal) (Q':=fun e a' w'=>∃ ex st' E' Pp',exOk e ex∧Sim G.tt G.n B E' Pp' st' a' w'∧Q ex st')
   (fun E Pp st a w hs hq=>⟨.normal,st,E,Pp,trivial,hs,hq⟩) ops.toList 0 rfl st E Pp a w hs h
  simpa [List.range_eq_range'] using this
theorem pwp_okL {LP:Code→St→(Ex→St→Prop)→Prop} {r:Option Nat} (htt:TtOk P G.tt) (hm:P.follows .mixedOrders=true) (hL:∀ c st Q,LP c st Q→PWp P G.tt G.n G.n0 r c st Q):∀ (c:Code) (st:St) (Q:Ex→St→Prop),pwp std G (FCx P G.tt) LP c st Q→PWp P G.tt G.n G.n0 r c st Q:=by
 intro c
 induction c with
 |skip=>intro st Q h;exact PWp.of_core fun B E Pp a w hb hs=>wpIn_skip ⟨.normal,st,E,Pp,trivial,hs,h⟩
 |region id ops draw=>
  intro st Q h
  simp only [pwp] at h
  split at h
  ·exact hL _ _ _ h
  ·exact regP_ok htt hm id ops draw st Q h
 |seq x y ihx ihy=>
  intro st Q h B E Pp a w hb hs
  refine wpIn_seq (wpIn_mono (ihx _ _ h B E Pp a w hb hs) ?_)
  rintro e a' w' ⟨ex,st',E',Pp',he,hs',hm',hsz,hq⟩
  cases e<;>cases ex<;>simp only [exOk] at he
  ·refine wpIn_mono (ihy _ _ hq (B.here E' Pp' st'.o a'.defers w') E' Pp' a' w' hb hs'.here) ?_
   rintro e2 a2 w2 ⟨ex2,st2,E2,Pp2,he2,k,m2,sz2,q2⟩
   exact ⟨ex2,st2,E2,Pp2,he2,Sim.back (B:=B.at a'.defers) hs' k,Mk.trans hsz hm' k m2,Nat.le_trans hsz sz2,q2⟩
  ·subst he;exact ⟨.exit _,st',E',Pp',rfl,hs',hm',hsz,hq⟩
  ·exact ⟨.ret,st',E',Pp',trivial,hs',hm',hsz,hq⟩
 |cond c x y ihx ihy=>
  intro st Q h B E Pp a w hb hs
  have hc:=ev_ok hs.slots c
  simp only [pwp] at h
  have setT_sim:∀ (b t:Bool),ev st.s c= .bool t→t=b→Sim G.tt G.n B E Pp (setT c b st) a w:=by
   intro b t hev ht
   cases c with
   |tmp d=>
    simp only [setT]
    simp only [ev] at hev
    have hl:look st.s d= .bool t:=by
     cases hx:look st.s d<;>rw [hx] at hev<;>simp [norm] at hev
     rw [hev]
    exact set_bool hs hl ht
   |_=>exact hs
  split at h
  ·rename_i hev;rw [hev] at hc
   generalize hg:a.eval c=v at hc
   cases hc
   exact wpIn_cond_true hg (ihx _ _ h B E Pp a w hb hs)
  ·rename_i hev;rw [hev] at hc
   generalize hg:a.eval c=v at hc
   cases hc
   exact wpIn_cond_false hg (ihy _ _ h B E Pp a w hb hs)
  ·rename_i t hev;rw [hev] at hc
   generalize hg:a.eval c=v at hc
   cases hc
   cases t with
   |true=>exact wpIn_cond_true hg (ihx _ _ (h.1 rfl) B E Pp a w hb (setT_sim _ _ hev rfl))
   |false=>exact wpIn_cond_false hg (ihy _ _ (h.2 rfl) B E Pp a w hb (setT_sim _ _ hev rfl))
  ·exact h.elim
 |block id c ih=>
  intro st Q h B E Pp a w hb hs
  refine wpIn_block (wpIn_mono (ih _ _ h B E Pp a w hb hs) ?_)
  rintro e a' w' ⟨ex,st',E',Pp',he,hs',hm',hsz,hq⟩
  cases e<;>cases ex<;>simp only [exOk] at he
  ·exact ⟨.normal,st',E',Pp',trivial,hs',hm',hsz,hq⟩
  ·rename_i i j
   subst he
   simp only [Exit.inBlock]
   simp only at hq
   by_cases hij:i=id
   ·subst hij
    rw [nb_refl] at hq
    rw [if_pos rfl]
    exact ⟨.normal,st',E',Pp',trivial,hs',hm',hsz,hq⟩
   ·have hb:nb i id=false:=by
     cases hb:nb i id with
     |false=>rfl
     |true=>exact absurd (nb_of hb) hij
    rw [hb] at hq
    rw [if_neg hij]
    exact ⟨.exit _,st',E',Pp',rfl,hs',hm',hsz,hq⟩
  ·exact ⟨.ret,st',E',Pp',trivial,hs',hm',hsz,hq⟩
 |loop c _=>intro st Q h;exact hL _ _ _ h
 |exit id=>intro st Q h;exact PWp.of_core fun B E Pp a w hb hs=>wpIn_exit ⟨.exit id,st,E,Pp,rfl,hs,h⟩
 |ret=>intro st Q h;exact PWp.of_core fun B E Pp a w hb hs=>wpIn_ret ⟨.ret,st,E,Pp,trivial,hs,h⟩
 |rangeFunc=>intro st Q h;exact hL _ _ _ h
 |scope=>intro st Q h;exact h.elim
 |label=>intro st Q h;exact h.elim
 |goto=>intro st Q h;exact h.elim
 |refuse=>intro st Q h;exact h.elim
theorem pwp_ok {r:Option Nat} (htt:TtOk P G.tt) (hm:P.follows .mixedOrders=true):∀ (c:Code) (st:St) (Q:Ex→St→Prop),pwp std G (FCx P G.tt) (fun c st Q=>PWp P G.tt G.n G.n0 r c st Q) c st Q→PWp P G.tt G.n G.n0 r c st Q:=pwp_okL htt hm fun _ _ _ h=>h
theorem look_initS_lt:∀ (ps:List PV) (i t:Nat),look (initS i ps) t=if i≤t∧t<i+ps.length then ps.getD (t-i) .undef else .undef
 |[],i,t=>by simp [initS,look]
 |p::ps,i,t=>by
  simp only [initS,look_cons,look_initS_lt ps (i+1) t]
  by_cases h:i=t
  ·subst h;simp
  ·rw [if_neg h]
   by_cases h2:i+1≤t∧t<i+1+ps.length
   ·rw [if_pos h2,if_pos (by simp;omega)]
    rw [show t-i=(t-(i+1))+1 by omega]
    simp
   ·rw [if_neg h2,if_neg (by simp;omega)]
theorem initS_ok {vals:List Value} {args:List PV} {n:Nat} (hv:VRL G.tt E Pp vals args):
 ∀ t,VR G.tt E Pp (((⟨vals⟩:Array Value)++Array.replicate n undef).getD t undef) (look (initS 0 args) t):=by
 intro t
 rw [look_initS_lt]
 have hl:=hv.length
 by_cases h:0≤t∧t<0+args.length
 ·rw [if_pos h]
  have hlt:t<args.length:=by omega
  obtain ⟨v,h1,h2⟩:=hv.get (j:=t) (p:=args[t]) (List.getElem?_eq_getElem hlt)
  have e1:args.getD (t-0) .undef=args[t]:=by simp [List.getD,List.getElem?_eq_getElem hlt]
  have e2:((⟨vals⟩:Array Value)++Array.replicate n undef).getD t undef=v:=by
   rw [Array.getD_eq_getD_getElem?,Array.getElem?_append_left (by simpa using (by omega:t<vals.length))]
   simp [h1]
  rw [e1,e2];exact h2
 ·rw [if_neg h];exact .undef _
def resF (tmps:Array Value):ResultVar→Sem Value
 | .tmp t=>pure (tmps.getD t undef)
 | .cell a t=>do loadVar t (← asAddr (tmps.getD a undef))
theorem results_eq (fn:Func) (tmps:Array Value):results fn tmps=(do let vs ←fn.results.mapM (resF tmps);pure (if h:vs.size=1 then vs[0] else .tuple vs)):=rfl
theorem resF_cell {tmps:Array Value} {t:Nat} {ty:TypeId} {ad:Addr} (h:tmps.getD t undef= .pointer (some ad)):resF tmps (.cell t ty)=loadVar ty ad:=by
 simp only [resF,h,asAddr,pure_bind]
theorem resPV_ok (htt:TtOk P G.tt) (hs:Sim G.tt G.n B E Pp st a w):∀ {l:List ResultVar} {ps:List PV},resPV G st l=some ps→
 ∃ vs,(l.mapM (resF a.tmps)).run P w= .ok vs w∧VRL G.tt E Pp vs ps
 |[],ps,h=>by simp [resPV] at h;subst h;exact ⟨[],by simp,.nil⟩
 | .tmp t::r,ps,h=>by
  simp only [resPV] at h
  split at h
  ·rename_i l hl
   simp at h;subst h
   obtain ⟨vs,h1,h2⟩:=resPV_ok htt hs hl
   exact ⟨a.tmps.getD t undef::vs,by simp only [List.mapM_cons,resF,Sem.run_bind,Sem.run_pure,Result.andThen_ok,h1],.cons _ _ _ _ (wk_ok 8 _ _ (norm_ok (hs.slots t))) h2⟩
  ·simp at h
 | .cell t ty::r,ps,h=>by
  simp only [resPV] at h
  split at h
  ·rename_i b off ti l hb hti hl
   split at h
   ·rename_i cs hcs
    simp only [lenL_eq,takeL_eq,dropL_eq] at h
    cases hle:(nle off slcM&&nle (off+ti.cks.length) cs.length) with
    |false=>rw [hle] at h;simp at h
    |true=>
     rw [hle] at h
     simp at h;subst h
     obtain ⟨vs,h1,h2⟩:=resPV_ok htt hs hl
     have hv:=hs.slots t
     rw [hb] at hv
     generalize hg:a.tmps.getD t undef=v at hv
     cases hv with
     |box _ _ _ blk hE hu=>
      rw [Bool.and_eq_true] at hle
      obtain rfl:=hu.get hle.1
      obtain ⟨v,h3,h4⟩:=load_box (htt _ _ hti) hs.wr.rw hE hcs (nle_of hle.2)
      refine ⟨v::vs,?_,.cons _ _ _ _ (wk_ok 8 _ _ h4) h2⟩
      have h5:(loadVar ty ⟨blk,off,none⟩).run P w= .ok v w:=by simpa [Instr.loadAt,Instr.sureAddr] using h3 w rfl
      simp only [List.mapM_cons,resF_cell hg,Sem.run_bind,Sem.run_pure,Result.andThen_ok,h5,h1]
   ·simp at h
  ·simp at h
theorem resOf_ok (htt:TtOk P G.tt) (hs:Sim G.tt G.n B E Pp st a w) {fn:Func} {p:PV} (h:resOf G st fn.results.toList=some p):
 ∃ v,(results fn a.tmps).run P w= .ok v w∧VR G.tt E Pp v p:=by
 unfold resOf at h
 have hres:∀ vs:List Value,(fn.results.toList.mapM (resF a.tmps)).run P w= .ok vs w→
  (results fn a.tmps).run P w= .ok (if h:(⟨vs⟩:Array Value).size=1 then (⟨vs⟩:Array Value)[0] else .tuple ⟨vs⟩) w:=by
  intro vs hv
  simp only [results_eq,Sem.run_bind,Array.mapM_eq_mapM_toList,Sem.run_map,hv,Result.andThen_ok]
  rfl
 split at h
 ·rename_i v hv
  simp at h;subst h
  obtain ⟨vs,h1,h2⟩:=resPV_ok htt hs hv
  cases h2 with
  |cons u _ vs _ hu ht=>
   cases ht
   exact ⟨u,by rw [hres _ h1];simp,hu⟩
 ·rename_i vs hne hv
  simp at h;subst h
  obtain ⟨us,h1,h2⟩:=resPV_ok htt hs hv
  refine ⟨.tuple ⟨us⟩,?_,.tup _ _ h2⟩
  rw [hres _ h1]
  have hl:=h2.length
  have:¬(⟨us⟩:Array Value).size=1:=by
   intro h1
   have:vs.length=1:=by rw [← hl];simpa using h1
   match vs,this with
   |[x],_=>exact hne x rfl
  rw [dif_neg this]
 ·simp at h
theorem enter_run {f:FuncId} {fn:Func} {c:Code} {vals:List Value} (hf:P.funcs[f]? =some fn) (hb:fn.body=some c) (hname:(fn.name== "runtime.NumGoroutine")=false):(callFunc f ⟨vals⟩).run P w= .ok (.enter f ⟨vals⟩) w:=by
 have h2:¬fn.name= "runtime.NumGoroutine" :=by simpa using hname
 simp [callFunc,hf,hb,h2]
theorem Sim.putMark {tt:TypeId→Option TI} {N:Nat} {b:Nat} {o1:Obj} (h:Sim tt N B E Pp st a w) (hd:w.heap[b]? =some (.deferred (some []))) (hno:¬own E st.o b) (hlo:B.w0.heap.size≤b):Sim tt N B E Pp st a (w.putObj b o1):=by
 have same:∀ k,k≠b→(w.putObj b o1).heap[k]? =w.heap[k]? :=fun k hk=>World.putObj_heap_other hk
 refine ⟨h.wr.frame (fun k hk=>same k (fun e=>hno (e▸hk))) (fun _ _ h=>h) (fun _ _ h=>.inl h) (fun ad v hv=> ?_),h.slots,h.size,h.defers,h.pre,h.per,?_,h.pnew,h.fresh⟩
 ·have hc:=h.wr.pi ad v hv
  rw [pc_same (same ad.block ?_)]
  ·exact hc
  ·intro e
   simp [pc,e,hd] at hc
 ·exact ⟨h.fr.os,h.fr.tape,h.fr.output,by simpa [World.putObj] using h.fr.size,fun k hk hn=>(same k (by omega)).trans (h.fr.block k hk hn)⟩
theorem leavesM {tt:TypeId→Option TI} {N:Nat} {fn:Func} {R:Ending→World→Prop}:∀ (bs:List Nat) (w:World) (a:Act),bs.Nodup→(∀ b∈bs,B.w0.heap.size≤b∧w.heap[b]? =some (.deferred (some []))∧¬own E st.o b)→Sim tt N B E Pp st a w→
 (∀ w',Sim tt N B E Pp st a w'→∃ v,(results fn a.tmps).run P w'= .ok v w'∧R (.returned v) w')→LeavesInM (fen none) 0 P fn a.tmps R (bs.map mkD) .returning w
 |[],w,a,_,_,hs,h=>h w hs
 |b::bs,w,a,hnd,hb,hs,h=>by
  rw [List.nodup_cons] at hnd
  obtain ⟨h1,h2,h3⟩:=hb b (by simp)
  refine ⟨by simp,.inl ⟨b,w.putObj b (.deferred none),rfl,run_takeDeferred h2,?_⟩⟩
  refine leavesM bs _ a hnd.2 (fun b' hb'=> ?_) (hs.putMark h2 h3 h1) h
  obtain ⟨q1,q2,q3⟩:=hb b' (by simp [hb'])
  refine ⟨q1,?_,q3⟩
  rw [World.putObj_heap_other (by rintro rfl;exact hnd.1 hb')]
  exact q2
theorem FC_genP {f:FuncId} {fn:Func} {c:Code} (htt:TtOk P G.tt) (hm:P.follows .mixedOrders=true) (hname:(fn.name== "runtime.NumGoroutine")=false) (hf:P.funcs[f]? =some fn) (hb:fn.body=some c) {objs:List Ob} {args:List PV} {K:PV→List Ob→Prop} (hn0:objs.length=G.n0) (st0:St)
 (hst:∀ E Pp w vals,WR G.tt E Pp objs w→VRL G.tt E Pp vals args→∃ E1,Sim G.tt G.n { w0:=w,E0:=E,P0:=Pp,own0:=own E objs } E1 Pp st0 ⟨(⟨vals⟩:Array Value)++Array.replicate (fn.ntmps-(⟨vals⟩:Array Value).size) undef,[]⟩ w)
 {fin:St→Prop} (h:PWp P G.tt G.n G.n0 none c st0 fun e st=>match e with| .exit _=>False|_=>fin st)
 (hfin:∀ {E Pp w E' Pp' st' a' w' d},WR G.tt E Pp objs w→fin st'→Sim G.tt G.n { w0:=w,E0:=E,P0:=Pp,own0:=own E objs,d0:=d } E' Pp' st' a' w'→∃ v,(results fn a'.tmps).run P w'= .ok v w'∧FCPost G.tt E Pp objs w K (.returned v) w'):FC P G.tt f objs args K:=by
 intro E Pp w vals hw hv
 obtain ⟨E1,hs0⟩:=hst E Pp w vals hw hv
 refine .inl ⟨enter_run hf hb hname,?_⟩
 refine callsIn_wide.1 (callsIn_of_wp_marks (F:=fen none) (n:=0) hf hb trivial (wpIn_mono (h _ E1 Pp _ w (by rw [← hn0];exact hw.len) hs0) ?_))
 rintro e a' w' ⟨ex,st',E',Pp',he,hs',⟨bs,hbs,hnd,hall⟩,_,hq⟩
 rw [List.append_nil] at hbs
 have go:fin st'→LeavesInM (fen none) 0 P fn a'.tmps (FCPost G.tt E Pp objs w K) a'.defers .returning w':=by
  intro hr
  have:=leavesM (fn:=fn) (R:=FCPost G.tt E Pp objs w K) bs w' a' hnd (fun b hb=>⟨(hall b hb).1,(hall b hb).2.2.1,(hall b hb).2.2.2⟩) hs' (fun w2 hs2=>hfin hw hr hs2)
  rw [hbs];exact this
 cases e<;>cases ex<;>simp only [exOk] at he
 ·exact go hq
 ·exact hq.elim
 ·exact go hq
theorem FC_genL {LP:Code→St→(Ex→St→Prop)→Prop} (hL:∀ c st Q,LP c st Q→PWp P G.tt G.n G.n0 none c st Q) {f:FuncId} {fn:Func} {c:Code} (htt:TtOk P G.tt) (hm:P.follows .mixedOrders=true) (hname:(fn.name== "runtime.NumGoroutine")=false) (hf:P.funcs[f]? =some fn) (hb:fn.body=some c) {objs:List Ob} {args:List PV} {K:PV→List Ob→Prop} (hn0:objs.length=G.n0) (st0:St)
 (hst:∀ E Pp w vals,WR G.tt E Pp objs w→VRL G.tt E Pp vals args→∃ E1,Sim G.tt G.n { w0:=w,E0:=E,P0:=Pp,own0:=own E objs } E1 Pp st0 ⟨(⟨vals⟩:Array Value)++Array.replicate (fn.ntmps-(⟨vals⟩:Array Value).size) undef,[]⟩ w)
 {fin:St→Prop} (h:pwp std G (FCx P G.tt) LP c st0 fun e st=>match e with| .exit _=>False|_=>fin st)
 (hfin:∀ {E Pp w E' Pp' st' a' w' d},WR G.tt E Pp objs w→fin st'→Sim G.tt G.n { w0:=w,E0:=E,P0:=Pp,own0:=own E objs,d0:=d } E' Pp' st' a' w'→∃ v,(results fn a'.tmps).run P w'= .ok v w'∧FCPost G.tt E Pp objs w K (.returned v) w'):FC P G.tt f objs args K:=
 FC_genP htt hm hname hf hb hn0 st0 hst (pwp_okL htt hm hL c _ _ h) hfin
theorem start0 {fn:Func} (hN:fn.ntmps=G.n) {args:List PV} (hlen:nle (lenL args) G.n=true):∀ E Pp w vals,WR G.tt E Pp [] w→VRL G.tt E Pp vals args→∃ E1,Sim G.tt G.n { w0:=w,E0:=E,P0:=Pp,own0:=own E [] } E1 Pp ⟨initS 0 args,[]⟩ ⟨(⟨vals⟩:Array Value)++Array.replicate (fn.ntmps-(⟨vals⟩:Array Value).size) undef,[]⟩ w:=by
 intro E Pp w vals hw hv
 have hll:=hv.length
 rw [lenL_eq] at hlen
 have hle:=nle_of hlen
 exact ⟨E,hw,initS_ok hv,by simp;omega,rfl,.refl _,fun _ _ h=>h,Fr.refl _ _,fun ad v h=>.inl h,fun i o ri b h=>by simp at h⟩
theorem FC_ofP {f:FuncId} {fn:Func} {c:Code} (htt:TtOk P G.tt) (hm:P.follows .mixedOrders=true) (hname:(fn.name== "runtime.NumGoroutine")=false) (hf:P.funcs[f]? =some fn) (hb:fn.body=some c) (hN:fn.ntmps=G.n) (hn0:G.n0=0) {args:List PV} (hlen:nle (lenL args) G.n=true) {K:PV→List Ob→Prop}
 (h:PWp P G.tt G.n G.n0 none c ⟨initS 0 args,[]⟩ fun e st=>match e with| .exit _=>False|_=>retK G 0 fn.results.toList st K):FC P G.tt f [] args K:=by
 refine FC_genP htt hm hname hf hb hn0.symm _ (start0 hN hlen) h ?_
 intro E Pp w E' Pp' st' a' w' d hw hr hs'
 have hE:E=[]:=List.eq_nil_of_length_eq_zero (by rw [hw.len];rfl)
 subst hE
 unfold retK at hr
 split at hr
 ·rename_i p hp
  obtain ⟨v,h1,h2⟩:=resOf_ok htt hs' hp
  refine ⟨v,h1,v,[],hurtP G.tt E' st'.o w' Pp' (ids st'.o 8 p),[],_,rfl,.refl _,fun ad u hu=>.inl (hs'.per ad u hu),?_,frz_ok hs'.wr 8 _ _ h2 (fun i hi=>hi),hr,hs'.fr,?_,fun i o ri b h=>by simp at h⟩
  ·exact WR.nil (fun ad u hu=>hurtP_lt hs'.wr hu) (hs'.wr.glM fun _ _ hv=>.inl hv)
  ·intro ad u hu
   rcases hurtP_own hu with h3|⟨i,o,ri,h3,h4,h5,h6⟩
   ·exact hs'.pnew ad u h3
   ·exact .inr (hs'.fresh i o ri _ h3 h4 h5 h6)
 ·exact hr.elim
theorem FC_of {f:FuncId} {fn:Func} {c:Code} (htt:TtOk P G.tt) (hm:P.follows .mixedOrders=true) (hname:(fn.name== "runtime.NumGoroutine")=false) (hf:P.funcs[f]? =some fn) (hb:fn.body=some c) (hN:fn.ntmps=G.n) (hn0:G.n0=0) {args:List PV} (hlen:nle (lenL args) G.n=true) {K:PV→List Ob→Prop}
 {LP:Code→St→(Ex→St→Prop)→Prop} (hL:∀ c st Q,LP c st Q→PWp P G.tt G.n G.n0 none c st Q)
 (h:pwp std G (FCx P G.tt) LP c ⟨initS 0 args,[]⟩ fun e st=>match e with| .exit _=>False|_=>retK G 0 fn.results.toList st K):FC P G.tt f [] args K:=
 FC_ofP htt hm hname hf hb hN hn0 hlen (pwp_okL htt hm hL c _ _ h)
theorem outPV_ok {tt:TypeId→Option TI} (hw:WR tt E Pp st.o w) {n0:Nat}:∀ {l:List PV} {k:Nat} {vs:List Value} {ps:List PV} {rs:List Nat} {E0:List RI},outPV n0 st k l=some (ps,rs)→VRL tt E Pp vs l→E0.length=k→
 VRL tt (E0++rs.map (fun r=>E.getD r .row0)) Pp vs ps∧∀ r∈rs,n0≤r∧∃ o,st.o[r]? =some o∧goesO o=true∧o.live=true
 |[],k,vs,ps,rs,E0,h,hv,_=>by
  simp [outPV] at h
  obtain ⟨rfl,rfl⟩:=h
  cases hv
  exact ⟨.nil,fun r hr=>by simp at hr⟩
 |p::l,k,vs,ps,rs,E0,h,hv,hE0=>by
  cases hv with
  |cons v _ vs _ hv1 hv2=>
  have plainCase:(bif isEmptyL (ids st.o 8 p) then (match outPV n0 st k l with|some (ps,rs)=>some (frz st.o 8 p::ps,rs)|none=>none) else none)=some (ps,rs)→
   VRL tt (E0++rs.map (fun r=>E.getD r .row0)) Pp (v::vs) ps∧∀ r∈rs,n0≤r∧∃ o,st.o[r]? =some o∧goesO o=true∧o.live=true:=by
   intro h
   cases hb:isEmptyL (ids st.o 8 p) with
   |false=>rw [hb] at h;simp at h
   |true=>
    rw [hb] at h
    simp only [cond_true] at h
    split at h
    ·rename_i ps' rs' hrec
     simp at h
     obtain ⟨rfl,rfl⟩:=h
     obtain ⟨h1,h2⟩:=outPV_ok hw hrec hv2 hE0
     refine ⟨.cons _ _ _ _ ?_ h1,h2⟩
     have hfz:=frz_ok hw (F:=[]) 8 p v hv1 (fun i hi=>by rw [isEmptyL_eq hb] at hi;exact hi)
     exact (hfz.mono (fun _ _ h=>h) (fun _ _=>hurtP_nil)).of_nil _
    ·simp at h
  have getE:∀ (r:Nat) ri,E[r]? =some ri→E.getD r .row0=ri:=fun r ri h=>by simp [List.getD,h]
  have hk:∀ (r:Nat) (rs':List Nat),(E0++(r::rs').map (fun r=>E.getD r .row0))[k]? =some (E.getD r .row0):=fun r rs'=>by
   rw [List.getElem?_append_right (by omega),hE0];simp
  have shift:∀ (r:Nat) (rs':List Nat),(E0++[E.getD r .row0])++rs'.map (fun r=>E.getD r .row0)=E0++(r::rs').map (fun r=>E.getD r .row0):=fun r rs'=>by simp
  simp only [outPV] at h
  split at h
  ·rename_i e r
   split at h
   ·rename_i e' d ho
    cases hb:(nb e e'&&nle n0 r) with
    |false=>rw [hb] at h;simp at h
    |true=>
     rw [hb] at h
     simp only [cond_true] at h
     simp only [Bool.and_eq_true] at hb
     split at h
     ·rename_i ps' rs' hrec
      simp at h
      obtain ⟨rfl,rfl⟩:=h
      obtain ⟨h1,h2⟩:=outPV_ok (E0:=E0++[E.getD r .row0]) hw hrec hv2 (by simp [hE0])
      rw [shift] at h1
      refine ⟨.cons _ _ _ _ ?_ h1,?_⟩
      ·cases hv1 with
       |row0 _ _ hE=>exact .row0 _ _ (by rw [hk,getE r _ hE])
       |row _ _ _ _ _ _ hE=>exact .row _ _ _ _ _ _ (by rw [hk,getE r _ hE])
      ·intro r' hr'
       rcases List.mem_cons.1 hr' with rfl|hr'
       ·exact ⟨nle_of hb.2,_,getO_live ho rfl,rfl,rfl⟩
       ·exact h2 r' hr'
     ·simp at h
   ·simp at h
  ·rename_i r
   split at h
   ·rename_i kc e d ho
    cases hb:nle n0 r with
    |false=>rw [hb] at h;simp at h
    |true=>
     rw [hb] at h
     simp only [cond_true] at h
     split at h
     ·rename_i ps' rs' hrec
      simp at h
      obtain ⟨rfl,rfl⟩:=h
      obtain ⟨h1,h2⟩:=outPV_ok (E0:=E0++[E.getD r .row0]) hw hrec hv2 (by simp [hE0])
      rw [shift] at h1
      refine ⟨.cons _ _ _ _ ?_ h1,?_⟩
      ·cases hv1 with
       |mp _ _ _ _ hE=>exact .mp _ _ _ _ (by rw [hk,getE r _ hE])
      ·intro r' hr'
       rcases List.mem_cons.1 hr' with rfl|hr'
       ·exact ⟨nle_of hb,_,getO_live ho rfl,rfl,rfl⟩
       ·exact h2 r' hr'
     ·simp at h
   ·simp at h
  ·exact plainCase h
theorem FC_own {f:FuncId} {fn:Func} {c:Code} (htt:TtOk P G.tt) (hm:P.follows .mixedOrders=true) (hname:(fn.name== "runtime.NumGoroutine")=false) (hf:P.funcs[f]? =some fn) (hb:fn.body=some c) (hN:fn.ntmps=G.n) (hn0:G.n0=0) {args:List PV} (hlen:nle (lenL args) G.n=true) {K:PV→List Ob→Prop}
 (h:pwp std G (FCx P G.tt) (fun c st Q=>PWp P G.tt G.n G.n0 none c st Q) c ⟨initS 0 args,[]⟩ fun e st=>match e with| .exit _=>False|_=>retOwnK G 0 fn.results.toList st K):FC P G.tt f [] args K:=by
 refine FC_genL (fun _ _ _ h=>h) htt hm hname hf hb hn0.symm _ (start0 hN hlen) h ?_
 intro E Pp w E' Pp' st' a' w' d hw hr hs'
 have hE:E=[]:=List.eq_nil_of_length_eq_zero (by rw [hw.len];rfl)
 subst hE
 have key:∀ (st':St) (Pp':Per),Sim G.tt G.n { w0:=w,E0:=[],P0:=Pp,own0:=own [] [],d0:=d } E' Pp' st' a' w'→retOwn1 G 0 fn.results.toList st' K→∃ v,Sem.run P (results fn a'.tmps) w'=Result.ok v w'∧FCPost G.tt [] Pp [] w K (Ending.returned v) w':=by
  clear hs' hr
  intro st' Pp' hs' hr
  unfold retOwn1 at hr
  split at hr
  ·rename_i p hp
   obtain ⟨v,h1,h2⟩:=resOf_ok htt hs' hp
   split at hr
   ·rename_i ps rs hout
    cases hnd:nodupL rs with
    |false=>rw [hnd] at hr;exact hr.elim
    |true=>
     rw [hnd] at hr
     simp only [cond_true] at hr
     have hnd:=nodupL_eq hnd
     have parts:∃ vs,VRL G.tt E' Pp' vs (partsOf p).1∧∀ E2 ps,VRL G.tt E2 Pp' vs ps→ps.length=(partsOf p).1.length→VR G.tt E2 Pp' v (wholeOf (partsOf p).2 ps):=by
      cases p with
      |tup cs=>
       cases h2 with
       |tup us _ hl=>exact ⟨us,hl,fun E2 ps h _=>.tup _ _ h⟩
      |_=>
       refine ⟨[v],.cons _ _ _ _ h2 .nil,fun E2 ps h hl=> ?_⟩
       cases h with
       |cons _ q _ _ h3 h4=>cases h4;exact h3
     obtain ⟨vs,hvs,hwhole⟩:=parts
     obtain ⟨h3,h4⟩:=outPV_ok (E0:=[]) hs'.wr hout hvs rfl
     rw [List.nil_append] at h3
     have hE2:∀ (j:Nat) r,rs[j]? =some r→∀ ri,E'[r]? =some ri→(rs.map (fun r=>E'.getD r .row0))[j]? =some ri:=by
      intro j r hj ri hri
      simp [hj,List.getD,hri]
     have hO2:∀ (j:Nat) o,(mapL (getO st'.o) rs)[j]? =some o→∃ r,rs[j]? =some r∧st'.o[r]? =some o∧goesO o=true∧o.live=true:=by
      intro j o hj
      rw [mapL_eq,List.getElem?_map] at hj
      cases hx:rs[j]? with
      |none=>rw [hx] at hj;simp at hj
      |some r=>
       rw [hx] at hj
       simp at hj
       obtain ⟨_,o',q1,q2,q3⟩:=h4 r (List.mem_of_getElem? hx)
       have:getO st'.o r=o':=by rw [getO_eq];simp [List.getD,q1]
       rw [this] at hj;subst hj
       exact ⟨r,rfl,q1,q2,q3⟩
     refine ⟨v,h1,v,rs.map (fun r=>E'.getD r .row0),Pp',mapL (getO st'.o) rs,_,rfl,fun i x h=>by simp at h,fun ad u hu=>hs'.per ad u hu,?_,hwhole _ _ h3 (by rw [← h3.length,←hvs.length]),hr,hs'.fr,hs'.pnew,?_⟩
     ·refine ⟨by simp [mapL_eq],hs'.wr.pi,?_,?_,hs'.wr.gl⟩
      ·intro j o hj hl
       obtain ⟨r,q1,q2,q3,q4⟩:=hO2 j o hj
       obtain ⟨ri,hri,hor⟩:=hs'.wr.ob r o q2 q4
       exact ⟨ri,hE2 j r q1 ri hri,hor.goes q3 q4⟩
      ·intro i j oi oj ri rj b hi hj hli hlj hEi hEj hbi hbj
       obtain ⟨r,q1,q2,q3,q4⟩:=hO2 i oi hi
       obtain ⟨r',p1,p2,p3,p4⟩:=hO2 j oj hj
       obtain ⟨ri',hri,_⟩:=hs'.wr.ob r oi q2 q4
       obtain ⟨rj',hrj,_⟩:=hs'.wr.ob r' oj p2 p4
       rw [hE2 i r q1 ri' hri] at hEi;cases hEi
       rw [hE2 j r' p1 rj' hrj] at hEj;cases hEj
       have:=hs'.wr.sep r r' oi oj ri rj b q2 p2 q4 p4 hri hrj hbi hbj
       subst this
       exact nodup_idx hnd q1 p1
     ·intro j o ri b hj hl hEj hb
      obtain ⟨r,q1,q2,q3,q4⟩:=hO2 j o hj
      obtain ⟨ri',hri,_⟩:=hs'.wr.ob r o q2 q4
      rw [hE2 j r q1 ri' hri] at hEj;cases hEj
      exact hs'.fresh r o ri b q2 q4 hri hb
   ·exact hr.elim
  ·exact hr.elim
 unfold retOwnK at hr
 split at hr
 ·rename_i p0 hp0
  obtain ⟨Pp2,hsw2,_,hsl2,_⟩:=sinks_ok (mpsAgg p0) hs'.toW hs'.slots
  exact key _ _ (SimW.sim hsw2 hsl2 hs'.size hs'.defers) hr
 ·exact hr.elim
end
end Go.VC
end

section
namespace Go.VC
open Go
def pvLe:PV→PV→Prop
 |_,.undef=>True
 | .bl a,.bool b=>a=b
 | .lsf e d,.lst e' d'=>e=e'∧d=d'
 | .lst e d,.lst e' d'=>e=e'∧d=d'
 | .int k n,.int k' n'=>k=k'∧n=n'
 | .bool a,.bool b=>a=b
 | .str a,.str b=>a=b
 | .nilp,.dptr _ d=>d= .nil
 |p,q=>p=q
def pvLes:List PV→List PV→Prop
 |[],[]=>True
 |p::ps,q::qs=>pvLe p q∧pvLes ps qs
 |_,_=>False
def subS (s:Slots):Slots→Prop
 |[]=>True
 |(t,q)::r=>pvLe (look s t) q∧subS s r
def obLe:Ob→Ob→Prop
 |_,.dead=>True
 | .box cs,.box cs'=>pvLes cs cs'
 | .row e d b,.row e' d' b'=>e=e'∧d=d'∧b=b'
 | .map k e d,.map k' e' d'=>k=k'∧e=e'∧d=d'
 | .iter m s,.iter m' s'=>m=m'∧s=s'
 | .diter e d s,.diter e' d' s'=>e=e'∧d=d'∧s=s'
 | .loop n ps a c s j,.loop n' ps' a' c' s' j'=>n=n'∧ps=ps'∧a=a'∧c=c'∧subS s s'∧j=j'
 |_,_=>False
def subO:List Ob→List Ob→Prop
 |_,[]=>True
 |o::os,q::qs=>obLe o q∧subO os qs
 |[],_::_=>False
def lowPV (n:Nat):Nat→PV→Bool
 |0,_=>false
 |k+1,p=>match p with
  | .agg cs=>allL (lowPV n k) cs
  | .tup cs=>allL (lowPV n k) cs
  | .clos _ cs=>allL (lowPV n k) cs
  | .pptr cs _=>allL (lowPV n k) cs
  | .box b _=>nlt b n
  | .row _ b=>nlt b n
  | .rptr _ b _ _=>nlt b n
  | .mp b=>nlt b n
  | .it b=>nlt b n
  | .yld b=>nlt b n
  |_=>true
def lowS (n:Nat):Slots→Bool
 |[]=>true
 |(_,p)::s=>lowPV n 8 p&&lowS n s
def lowO (n:Nat):List Ob→Bool
 |[]=>true
 | .box cs::l=>allL (lowPV n 8) cs&&lowO n l
 | .iter m _::l=>nlt m n&&lowO n l
 | .loop _ _ _ _ s _::l=>lowS n s&&lowO n l
 |_::l=>lowO n l
def Sub (n0:Nat) (st st2:St):Prop:=(lowS (lenL st2.o) st2.s&&lowO (lenL st2.o) st2.o&&nle n0 (lenL st2.o))=true∧subS st.s st2.s∧subO st.o st2.o
section
variable {P:Program} {tt:TypeId→Option TI} {N n0:Nat} {B:Base} {E:List RI} {Pp:Per} {w:World} {st:St} {a:Act}
theorem pvLe_ok {p q:PV} {v:Value} (h:pvLe p q) (hv:VR tt E Pp v p):VR tt E Pp v q:=by
 unfold pvLe at h
 split at h
 ·exact .undef _
 ·subst h;cases hv;exact .bool _
 ·obtain ⟨rfl,rfl⟩:=h
  cases hv with
  |lsf _ _ _ _ hr=>exact .lst _ _ _ hr
 ·obtain ⟨rfl,rfl⟩:=h;exact hv
 ·obtain ⟨rfl,rfl⟩:=h;exact hv
 ·subst h;exact hv
 ·subst h;exact hv
 ·subst h;cases hv;exact .dptr _ _ _ (.pnil _)
 ·subst h;exact hv
theorem pvLes_ok:∀ {ps qs:List PV} {vs:List Value},pvLes ps qs→VRL tt E Pp vs ps→VRL tt E Pp vs qs
 |[],[],_,_,hv=>hv
 |p::ps,q::qs,vs,h,hv=>by
  cases hv with
  |cons _ _ _ _ h1 h2=>exact .cons _ _ _ _ (pvLe_ok h.1 h1) (pvLes_ok h.2 h2)
 |[],_::_,_,h,_=>h.elim
 |_::_,[],_,h,_=>h.elim
theorem lowPV_ok {n:Nat}:∀ (k:Nat) (p:PV) (v:Value),lowPV n k p=true→VR tt E Pp v p→VR tt (E.take n) Pp v p:=by
 intro k
 induction k with
 |zero=>intro p v h;simp [lowPV] at h
 |succ k ih=>
  have get:∀ (b:Nat) (x:RI),nlt b n=true→E[b]? =some x→(E.take n)[b]? =some x:=by
   intro b x hb hx
   rw [List.getElem?_take_of_lt (nle_of hb)]
   exact hx
  have ihs:∀ (cs:List PV) (vs:List Value),allL (lowPV n k) cs=true→VRL tt E Pp vs cs→VRL tt (E.take n) Pp vs cs:=by
   intro cs
   induction cs with
   |nil=>intro vs _ hv;cases hv;exact .nil
   |cons c cs ihc=>
    intro vs h hv
    simp only [allL,Bool.and_eq_true] at h
    cases hv with
    |cons _ _ _ _ h1 h2=>exact .cons _ _ _ _ (ih _ _ h.1 h1) (ihc _ h.2 h2)
  intro p v h hv
  cases hv with
  |undef=>exact .undef _
  |int=>exact .int _ _
  |bl=>exact .bl _
  |bool=>exact .bool _
  |str=>exact .str _
  |lst _ _ _ hr=>exact .lst _ _ _ hr
  |lsf _ _ _ _ hr=>exact .lsf _ _ _ _ hr
  |agg vs cs hl=>exact .agg _ _ (ihs _ _ h hl)
  |tup vs cs hl=>exact .tup _ _ (ihs _ _ h hl)
  |box _ b _ _ hb hu=>exact .box _ _ _ _ (get _ _ h hb) hu
  |row0 _ b hb=>exact .row0 _ _ (get _ _ h hb)
  |row _ b _ _ _ _ hb=>exact .row _ _ _ _ _ _ (get _ _ h hb)
  |rptr _ _ b _ _ _ _ _ _ hb h0 h1=>exact .rptr _ _ _ _ _ _ _ _ _ (get _ _ h hb) h0 h1
  |eptr _ _ _ _ _ _ _ _ hr h0 h1=>exact .eptr _ _ _ _ _ _ _ _ hr h0 h1
  |pptr u vs cs off b o hu hl hpi=>exact .pptr _ _ _ _ _ _ hu (ihs _ _ h hl) hpi
  |dptr _ _ _ hr=>exact .dptr _ _ _ hr
  |dmp _ _ _ _ hr=>exact .dmp _ _ _ _ hr
  |dpp _ _ _ _ _ hr=>exact .dpp _ _ _ _ _ hr
  |clos u f vs cs hu hl=>exact .clos _ _ _ _ hu (ihs _ _ h hl)
  |nilp=>exact .nilp
  |nilm=>exact .nilm
  |nils=>exact .nils
  |nilf=>exact .nilf
  |mp b _ _ _ hb=>exact .mp _ _ _ _ (get _ _ h hb)
  |it b _ hb=>exact .it _ _ (get _ _ h hb)
  |yld b _ hb=>exact .yld _ _ (get _ _ h hb)
theorem lows_ok {n k:Nat} {cs:List PV} {vs:List Value} (h:allL (lowPV n k) cs=true) (hv:VRL tt E Pp vs cs):VRL tt (E.take n) Pp vs cs:=by
 induction cs generalizing vs with
 |nil=>cases hv;exact .nil
 |cons c cs ih=>
  simp only [allL,Bool.and_eq_true] at h
  cases hv with
  |cons _ _ _ _ h1 h2=>exact .cons _ _ _ _ (lowPV_ok k _ _ h.1 h1) (ih h.2 h2)
theorem lowS_look {n:Nat} {s:Slots} (h:lowS n s=true) (t:Nat):lowPV n 8 (look s t)=true:=by
 induction s with
 |nil=>rfl
 |cons x s ih=>
  obtain ⟨k,p⟩:=x
  simp only [lowS,Bool.and_eq_true] at h
  rw [look_cons]
  split
  ·exact h.1
  ·exact ih h.2
theorem lowO_get {n:Nat}:∀ {l:List Ob} {i:Nat} {o:Ob},lowO n l=true→l[i]? =some o→(∀ cs,o= .box cs→allL (lowPV n 8) cs=true)∧(∀ m s,o= .iter m s→m<n)∧(∀ k ps a c s j,o= .loop k ps a c s j→lowS n s=true)
 |[],i,o,_,ho=>by simp at ho
 |x::l,i,o,h,ho=>by
  cases i with
  |zero=>
   simp at ho;subst ho
   refine ⟨?_,?_,?_⟩
   ·intro cs hcs;subst hcs
    simp only [lowO,Bool.and_eq_true] at h
    exact h.1
   ·intro m s hcs;subst hcs
    simp only [lowO,Bool.and_eq_true] at h
    exact nle_of h.1
   ·intro k ps a c s j hcs;subst hcs
    simp only [lowO,Bool.and_eq_true] at h
    exact h.1
  |succ i=>
   have hl:lowO n l=true:=by cases x<;>simp_all [lowO]
   exact lowO_get hl (by simpa using ho)
theorem subO_get:∀ {l k:List Ob} {i:Nat} {q:Ob},subO l k→k[i]? =some q→∃ o,l[i]? =some o∧obLe o q
 |_,[],i,q,_,h=>by simp at h
 |[],_::_,_,_,h,_=>h.elim
 |o::os,q::qs,i,q',h,hq=>by
  cases i with
  |zero=>simp at hq;subst hq;exact ⟨o,rfl,h.1⟩
  |succ i=>simpa using subO_get h.2 (by simpa using hq)
theorem subO_len:∀ {l k:List Ob},subO l k→k.length≤l.length
 |_,[],_=>by simp
 |[],_::_,h=>h.elim
 |o::os,q::qs,h=>by simpa using subO_len h.2
theorem subS_look {s:Slots}:∀ {r:Slots},subS s r→∀ t,pvLe (look s t) (look r t)
 |[],_,t=>by simp [look,pvLe]
 |(k,q)::r,h,t=>by
  rw [look_cons]
  split
  ·rename_i hk;subst hk;exact h.1
  ·exact subS_look h.2 t
theorem pvLe_ptr {p q:PV} (h:pvLe p q) (hq:ptrLike q=true):ptrLike p=true:=by
 cases q with
 |nilp=>cases p<;>first|rfl|(simp only [pvLe] at h;cases h)
 |box b off=>cases p<;>first|rfl|(simp only [pvLe] at h;cases h)
 |_=>cases hq
theorem pvLes_bld:∀ {ps qs:List PV},pvLes ps qs→bldLike qs=true→bldLike ps=true
 |_,[],_,h=>by cases h
 |_,[_],_,h=>by cases h
 |[],_::_::_,h,_=>h.elim
 |[_],[_,_],h,_=>h.2.elim
 |[a,b],[c,d],h,hb=>pvLe_ptr (p:=a) (q:=c) h.1 hb
 |_::_::_::_,[_,_],h,_=>h.2.2.elim
 |_,_::_::_::_,_,h=>by cases h
theorem OR.le {ri:RI} {o q:Ob} {n:Nat} (h:obLe o q) (hl:q.live=true) (hlow:(∀ cs,q= .box cs→allL (lowPV n 8) cs=true)∧(∀ m s,q= .iter m s→m<n)∧(∀ k ps a c s j,q= .loop k ps a c s j→lowS n s=true)) (hor:OR tt E Pp w ri o):o.live=true∧OR tt (E.take n) Pp w ri q:=by
 cases o<;>cases q<;>simp only [obLe] at h<;>simp [Ob.live] at hl
 case box.box cs cs'=>
  refine ⟨rfl,?_⟩
  cases ri<;>simp only [OR] at hor ⊢
  ·obtain ⟨vs,T,h1,h2,h3,h4⟩:=hor
   exact ⟨vs,T,h1,lows_ok (hlow.1 _ rfl) (pvLes_ok h h2),h3,fun hb=>h4 (pvLes_bld h hb)⟩
  ·exact hor.imp fun _ a=>⟨a.1,lows_ok (hlow.1 _ rfl) (pvLes_ok h a.2.1),a.2.2⟩
 case row.row e d b e' d' b'=>
  obtain ⟨rfl,rfl,rfl⟩:=h
  exact ⟨rfl,by cases ri<;>exact hor⟩
 case map.map k e d k' e' d'=>
  obtain ⟨rfl,rfl,rfl⟩:=h
  exact ⟨rfl,by cases ri<;>exact hor⟩
 case iter.iter m s m' s'=>
  obtain ⟨rfl,rfl⟩:=h
  refine ⟨rfl,?_⟩
  cases ri<;>try exact hor.elim
  obtain ⟨bm,borns,clock,ls,h1,h2⟩:=hor
  exact ⟨bm,borns,clock,ls,by rw [List.getElem?_take_of_lt (hlow.2.1 _ _ rfl)];exact h1,h2⟩
 case diter.diter e d s e' d' s'=>
  obtain ⟨rfl,rfl,rfl⟩:=h
  exact ⟨rfl,by cases ri<;>exact hor⟩
 case loop.loop k ps a c s j k' ps' a' c' s' j'=>
  obtain ⟨rfl,rfl,rfl,rfl,h5,rfl⟩:=h
  refine ⟨rfl,?_⟩
  cases ri<;>try exact hor.elim
  obtain ⟨r,h1,h2,h3⟩:=hor
  exact ⟨r,h1,h2,fun t=>lowPV_ok 8 _ _ (lowS_look (hlow.2.2 _ _ _ _ _ _ rfl) t) (pvLe_ok (subS_look h5 t) (h3 t))⟩
theorem Sim.sub {st2:St} (hb:B.E0.length=n0) (h:Sim tt N B E Pp st a w) (hs:Sub n0 st st2):Sim tt N B (E.take st2.o.length) Pp st2 a w:=by
 obtain ⟨hc,h1,h2⟩:=hs
 simp only [Bool.and_eq_true,lenL_eq] at hc
 obtain ⟨⟨c1,c2⟩,c3⟩:=hc
 have c3:=nle_of c3
 have hlen:=subO_len h2
 have get:∀ (i:Nat) (x:RI),(E.take st2.o.length)[i]? =some x→E[i]? =some x:=by
  intro i x hx
  rw [List.getElem?_take] at hx
  split at hx
  ·exact hx
  ·simp at hx
 have live:∀ (i:Nat) q,st2.o[i]? =some q→q.live=true→∃ o ri,st.o[i]? =some o∧o.live=true∧E[i]? =some ri∧(E.take st2.o.length)[i]? =some ri∧OR tt (E.take st2.o.length) Pp w ri q:=by
  intro i q hq hl
  obtain ⟨o,ho,hle⟩:=subO_get h2 hq
  have hol:o.live=true:=by cases o<;>cases q<;>simp_all [obLe,Ob.live]
  obtain ⟨ri,hri,hor⟩:=h.wr.ob i o ho hol
  obtain ⟨_,hor'⟩:=OR.le hle hl (lowO_get c2 hq) hor
  have hlt:i<st2.o.length:=by
   rcases Nat.lt_or_ge i st2.o.length with h'|h'
   ·exact h'
   ·rw [List.getElem?_eq_none h'] at hq;simp at hq
  exact ⟨o,ri,ho,hol,hri,by rw [List.getElem?_take_of_lt hlt];exact hri,hor'⟩
 refine ⟨⟨by simp [h.wr.len];omega,h.wr.pi,?_,?_,h.wr.gl⟩,?_,h.size,h.defers,?_,h.per,h.fr,h.pnew,?_⟩
 ·intro i q hq hl
  obtain ⟨_,ri,_,_,_,h4,h5⟩:=live i q hq hl
  exact ⟨ri,h4,h5⟩
 ·intro i j oi oj ri rj b hi hj hli hlj hEi hEj hbi hbj
  obtain ⟨o,r,h3,h4,h5,h6,_⟩:=live i oi hi hli
  obtain ⟨o',r',h3',h4',h5',h6',_⟩:=live j oj hj hlj
  exact h.wr.sep i j o o' ri rj b h3 h3' h4 h4' (get _ _ hEi) (get _ _ hEj) hbi hbj
 ·intro t
  exact lowPV_ok 8 _ _ (lowS_look c1 t) (pvLe_ok (subS_look h1 t) (h.slots t))
 ·intro i x hx
  have hi:i<B.E0.length:=by
   rcases Nat.lt_or_ge i B.E0.length with h'|h'
   ·exact h'
   ·rw [List.getElem?_eq_none h'] at hx;simp at hx
  rw [List.getElem?_take_of_lt (by omega)]
  exact h.pre i x hx
 ·intro i o ri b ho hl hE hbk
  obtain ⟨o',r,h3,h4,h5,_,_⟩:=live i o ho hl
  exact h.fresh i o' ri b h3 h4 (get _ _ hE) hbk
theorem wp_loop_g {r:Option Nat} {α:Type} {c:Code} {Q:Exit→Act→World→Prop} (I:α→Act→World→Prop) (μ:α→Nat) (x0:α) (h₀:I x0 a w)
 (round:∀ x a w,I x a w→c.wpIn (fen r) 0 P (Exit.then (fun a' w'=>∃ x',I x' a' w'∧μ x'<μ x) Q) a w):(Code.loop c).wpIn (fen r) 0 P Q a w:=by
 intro b k cs hro hb hr
 have key:∀ n x a w,μ x=n→I x a w→
  ∃ e a' w',Q e a' w'∧ArrivesIn (Machine.fenced P (fen r)) P (lone (b.atR a (.code c:: .inLoop c::k)) cs w) b k cs e a' w':=by
  intro n
  induction n using Nat.strongRecOn with
  |_ n ih=>
   intro x a w hn hI
   obtain ⟨e,a₁,w₁,hq,harr⟩:=round x a w hI b (.inLoop c::k) cs hro hb hr
   cases e with
   |normal=>
    obtain ⟨x₁,hI₁,hlt⟩:=hq
    obtain ⟨e₂,a₂,w₂,hq₂,harr₂⟩:=ih (μ x₁) (hn▸hlt) x₁ a₁ w₁ rfl hI₁
    exact ⟨e₂,a₂,w₂,hq₂,.of_steps (StepsIn.trans harr (.one (fenced_calm hb hr rfl) stepR_inLoop)) harr₂⟩
   |exit id=>exact ⟨_,a₁,w₁,hq,.pass (x:=.inLoop c) rfl (fun _ _=>.inl (by simp)) harr⟩
   |goto l=>exact ⟨_,a₁,w₁,hq,.pass (x:=.inLoop c) rfl (fun _ _=>.inl (by simp)) harr⟩
   |ret=>exact ⟨_,a₁,w₁,hq,.pass (x:=.inLoop c) rfl (fun _ _=>.inl (by simp)) harr⟩
   |panic ch=>exact ⟨_,a₁,w₁,hq,.pass (x:=.inLoop c) rfl (fun _ _=>.inl (by simp)) harr⟩
   |outgrown=>exact ⟨_,a₁,w₁,hq,.pass (x:=.inLoop c) rfl (fun _ _=>.inl (by simp)) harr⟩
 obtain ⟨e,a',w',hq,harr⟩:=key _ x0 a w rfl h₀
 exact ⟨e,a',w',hq,.of_steps (.one (fenced_calm hb hr rfl) stepR_loop) harr⟩
theorem Mk.sub {d d':List Deferred} {w0 w:World} {E2:List RI} {o o2:List Ob} (m:Mk w0 d E o d' w) (h:∀ b,own E2 o2 b→own E o b):Mk w0 d E2 o2 d' w:=by
 obtain ⟨bs,h1,h2,h3⟩:=m
 exact ⟨bs,h1,h2,fun b hb=>⟨(h3 b hb).1,(h3 b hb).2.1,(h3 b hb).2.2.1,fun hn=>(h3 b hb).2.2.2 (h b hn)⟩⟩
theorem loop_gen {r:Option Nat} {α:Type} {c:Code} {Q:Ex→St→Prop} (Rel:St→St→Prop)
 (hrel:∀ {B:Base} {E:List RI} {Pp:Per} {st st2:St} {a:Act} {w:World},B.E0.length=n0→Sim tt N B E Pp st a w→Rel st st2→∃ E',Sim tt N B E' Pp st2 a w∧∀ b,own E' st2.o b→own E st.o b)
 (I:α→St) (φ:α→Prop) (μ:α→Nat) (x0:α) (h0:φ x0) (hst:Rel st (I x0))
 (round:∀ x,φ x→PWp P tt N n0 r c (I x) fun e st'=>match e with| .normal=>∃ x',φ x'∧μ x'<μ x∧Rel st' (I x')| .exit i=>Q (.exit i) st'| .ret=>Q .ret st'):PWp P tt N n0 r (.loop c) st Q:=by
 intro B E Pp a w hb hs
 obtain ⟨E1,hs1,_⟩:=hrel hb hs hst
 refine wp_loop_g (fun x a' w'=>∃ E Pp,φ x∧Sim tt N (B.at a'.defers) E Pp (I x) a' w'∧Mk w a.defers E (I x).o a'.defers w'∧w.heap.size≤w'.heap.size) μ x0 ⟨E1,Pp,h0,hs1.at,Mk.none rfl,Nat.le_refl _⟩ ?_
 rintro x a1 w1 ⟨E,Pp,hx,hs,hm,hz⟩
 refine wpIn_mono (round x hx (B.here E Pp (I x).o a1.defers w1) E Pp a1 w1 hb hs.here) ?_
 rintro e a2 w2 ⟨ex,st2,E2,Pp2,he,k,m2,sz2,q2⟩
 have hs2:=Sim.back (B:=B.at a1.defers) hs k
 have hm2:=Mk.trans hz hm k m2
 have hz2:=Nat.le_trans hz sz2
 cases e<;>cases ex<;>simp only [exOk] at he
 ·obtain ⟨x',h1,h2,h3⟩:=q2
  obtain ⟨E3,hs3,ho⟩:=hrel (B:=B.at a2.defers) hb hs2 h3
  exact ⟨x',⟨E3,Pp2,h1,hs3,hm2.sub ho,hz2⟩,h2⟩
 ·subst he;exact ⟨.exit _,st2,E2,Pp2,rfl,hs2,hm2,hz2,q2⟩
 ·exact ⟨.ret,st2,E2,Pp2,trivial,hs2,hm2,hz2,q2⟩
theorem Sub.own {st2:St} (hs:Sub n0 st st2):∀ b,own (E.take st2.o.length) st2.o b→VC.own E st.o b:=by
 rintro b ⟨i,q,ri,h1,h2,h3,h4⟩
 obtain ⟨o,ho,hle⟩:=subO_get hs.2.2 h1
 refine ⟨i,o,ri,ho,?_,?_,h4⟩
 ·cases o<;>cases q<;>simp_all [obLe,Ob.live]
 ·rw [List.getElem?_take] at h3
  split at h3
  ·exact h3
  ·simp at h3
theorem loop_rule {r:Option Nat} {α:Type} {c:Code} {Q:Ex→St→Prop} (I:α→St) (φ:α→Prop) (μ:α→Nat) (x0:α) (h0:φ x0) (hst:Sub n0 st (I x0))
 (round:∀ x,φ x→PWp P tt N n0 r c (I x) fun e st'=>match e with| .normal=>∃ x',φ x'∧μ x'<μ x∧Sub n0 st' (I x')| .exit i=>Q (.exit i) st'| .ret=>Q .ret st'):PWp P tt N n0 r (.loop c) st Q:=
 loop_gen (Sub n0) (fun hb h hk=>⟨_,h.sub hb hk,hk.own⟩) I φ μ x0 h0 hst round
def Std:Alg:=std
structure Ctx (P:Program) (G:Cfg) (A:Alg) (C:CallP) (L:Code→St→(Ex→St→Prop)→Prop):Prop where
 a:A=Std
 c:C=FCx P G.tt
 l:∃ r:Option Nat,(G.rnd=false→r=none)∧L=(fun c st Q=>PWp P G.tt G.n G.n0 r c st Q)
 tt:TtOk P G.tt
 m:P.follows .mixedOrders=true
structure Has (P:Program) (f:FuncId) (fn:Func) (c:Code):Prop where
 f:P.funcs[f]? =some fn
 name:(fn.name== "runtime.NumGoroutine")=false
 b:fn.body=some c
theorem FC.enter {G:Cfg} (htt:TtOk P G.tt) (hm:P.follows .mixedOrders=true) {f:FuncId} {fn:Func} {c:Code} (hf:Has P f fn c) (hN:fn.ntmps=G.n) (hn0:G.n0=0) {args:List PV} (hlen:nle (lenL args) G.n=true) {K:PV→List Ob→Prop}
 (h:∀ (A:Alg) (C:CallP) (L:Code→St→(Ex→St→Prop)→Prop),Ctx P G A C L→
   pwp A G C L c ⟨initS 0 args,[]⟩ fun e st=>match e with| .exit _=>False|_=>retK G 0 fn.results.toList st K):FC P G.tt f [] args K:=
 FC_of htt hm hf.name hf.f hf.b hN hn0 hlen (fun _ _ _ h=>h) (h _ _ _ ⟨rfl,rfl,⟨_,fun _=>rfl,rfl⟩,htt,hm⟩)
theorem FC.enterOwn {G:Cfg} (htt:TtOk P G.tt) (hm:P.follows .mixedOrders=true) {f:FuncId} {fn:Func} {c:Code} (hf:Has P f fn c) (hN:fn.ntmps=G.n) (hn0:G.n0=0) {args:List PV} (hlen:nle (lenL args) G.n=true) {K:PV→List Ob→Prop}
 (h:∀ (A:Alg) (C:CallP) (L:Code→St→(Ex→St→Prop)→Prop),Ctx P G A C L→
   pwp A G C L c ⟨initS 0 args,[]⟩ fun e st=>match e with| .exit _=>False|_=>retOwnK G 0 fn.results.toList st K):FC P G.tt f [] args K:=
 FC_own htt hm hf.name hf.f hf.b hN hn0 hlen (h _ _ _ ⟨rfl,rfl,⟨_,fun _=>rfl,rfl⟩,htt,hm⟩)
theorem Ctx.loop {G:Cfg} {A:Alg} {C:CallP} {L:Code→St→(Ex→St→Prop)→Prop} (X:Ctx P G A C L)
 {α:Type} (I:α→St) (φ:α→Prop) (μ:α→Nat) (x0:α) {c:Code} {st:St} {Q:Ex→St→Prop} (h0:φ x0) (hst:Sub G.n0 st (I x0))
 (round:∀ x,φ x→pwp A G C L c (I x) fun e st'=>match e with| .normal=>∃ x',φ x'∧μ x'<μ x∧Sub G.n0 st' (I x')| .exit i=>Q (.exit i) st'| .ret=>Q .ret st'):L (.loop c) st Q:=by
 obtain ⟨rfl,rfl,⟨r,_,rfl⟩,htt,hm⟩:=X
 exact loop_rule I φ μ x0 h0 hst fun x hx=>pwp_ok htt hm c _ _ (round x hx)
theorem Ctx.call {G:Cfg} {A:Alg} {C:CallP} {L:Code→St→(Ex→St→Prop)→Prop} (X:Ctx P G A C L) {f:FuncId} {objs:List Ob} {args:List PV} {K:PV→List Ob→Prop} (h:FC P G.tt f objs args K):C (.fn f) objs args K:=by
 rw [X.c];exact h
end
end Go.VC
end

section
namespace Go.VC
open Go
def zeroIs:Value→CK→Bool
 | .int k n,.int k'=>decide (k=k')&&decide (n=0)
 | .bool b,.bool=> !b
 | .string s,.str=>s.data.size==0
 | .slice none 0 0,.slice _=>true
 | .pointer none,.ptr _=>true
 | .map none,.map _ _=>true
 | .nilFunc,.fn=>true
 |_,_=>false
def zerosAre:List Value→List CK→Bool
 |[],[]=>true
 |v::vs,c::cs=>zeroIs v c&&zerosAre vs cs
 |_,_=>false
def descIs (P:Program) (t:TypeId) (ti:TI):TypeDesc→Bool
 | .struct fields=>ti.agg&&decide (fields.toList.map (fun (x:Go.Field)=>(x.offset,x.type))=ti.fs)&&(fields.toList.mapM (fun (f:Go.Field)=>(P.info? f.type).map fun i=>(f.offset,i.size))).isSome
 | .array n e=>ti.agg&&decide (ti.ar=n+1)&&decide (ti.el=e)&&decide (ti.fs=[])
 | .slice e=> !ti.agg&&decide (ti.cks=[.slice e])&&decide (ti.el=e)&&decide (ti.fs=[])
 | .int k=> !ti.agg&&decide (ti.cks=[.int k])&&decide (ti.fs=[])
 | .bool=> !ti.agg&&decide (ti.cks=[.bool])&&decide (ti.fs=[])
 | .string=> !ti.agg&&decide (ti.cks=[.str])&&decide (ti.fs=[])
 | .pointer e=> !ti.agg&&decide (ti.cks=[.ptr e])&&decide (ti.fs=[])
 | .map k e=> !ti.agg&&decide (ti.cks=[.map t e])&&decide (ti.ar=k+1)&&decide (ti.el=e)&&decide (ti.fs=[])
 | .func _ _ _=> !ti.agg&&decide (ti.cks=[.fn])&&decide (ti.fs=[])
 |_=>false
def tiCheck (P:Program) (t:TypeId) (ti:TI):Bool:=
 match P.info? t,P.underlying t with
 |some i,some d=>(match i.zero with
  |some z=>decide (i.size=ti.cks.length)&&decide (i.bytes=ti.bytes)&&zerosAre z.cells.toList ti.cks&&(match z with| .agg _=>ti.agg|_=> !ti.agg)&&descIs P t ti d&&(decide (ti.ar=0)|| !ti.agg||(match d with| .array _ _=>true|_=>false))
  |none=>false)
 |_,_=>false
def findT:List (TypeId×TI)→TypeId→Option TI
 |[],_=>none
 |(k,ti)::r,t=>bif nb k t then some ti else findT r t
theorem zeroIs_ok {v:Value} {c:CK} (h:zeroIs v c=true):v=zeroV c:=by
 unfold zeroIs at h
 split at h<;>simp at h<;>simp only [zeroV]
 ·rw [h.1,h.2]
 ·rw [h]
 ·rename_i s
  obtain ⟨d⟩:=s
  first|(subst h;rfl)|(simp at h;rw [h])|(rw [h];rfl)
theorem zerosAre_ok:∀ {vs:List Value} {cs:List CK},zerosAre vs cs=true→vs=cs.map zeroV
 |[],[],_=>rfl
 |v::vs,c::cs,h=>by
  simp only [zerosAre,Bool.and_eq_true] at h
  simp only [List.map_cons]
  rw [zeroIs_ok h.1,zerosAre_ok h.2]
 |[],_::_,h=>by simp [zerosAre] at h
 |_::_,[],h=>by simp [zerosAre] at h
theorem tiCheck_ok {P:Program} {t:TypeId} {ti:TI} (h:tiCheck P t ti=true) (he:ti.eqOk=true→ti.agg=true∧EqLaw P t ti.cks∧KeyLaw P t ti.cks):TiOk P t ti:=by
 unfold tiCheck at h
 split at h
 ·rename_i i d hi hd
  split at h
  ·rename_i z hz
   simp only [Bool.and_eq_true,decide_eq_true_eq,Bool.or_eq_true,Bool.not_eq_true'] at h
   obtain ⟨⟨⟨⟨⟨h1,h2⟩,h3⟩,h4⟩,h5⟩,h6⟩:=h
   refine ⟨⟨i,z,d,hi,h1,h2,hz,zerosAre_ok h3,?_,hd,?_⟩,he,?_⟩
   ·cases z<;>simp at h4<;>simp [h4,Value.cells]
   ·cases d<;>simp only [descIs,Bool.and_eq_true,decide_eq_true_eq,Bool.not_eq_true',Bool.false_eq_true] at h5
    case struct fields=>
     obtain ⟨⟨a,b⟩,c⟩:=h5
     refine ⟨a,?_,Option.isSome_iff_exists.1 c⟩
     intro f
     rw [← b]
     simp
    case array n e=>obtain ⟨⟨⟨a,b⟩,c⟩,d⟩:=h5;exact ⟨a,b,c,d⟩
    case slice e=>obtain ⟨⟨⟨a,b⟩,c⟩,d⟩:=h5;exact ⟨a,b,c,d⟩
    case int k=>obtain ⟨⟨a,b⟩,c⟩:=h5;exact ⟨a,b,c⟩
    case bool=>obtain ⟨⟨a,b⟩,c⟩:=h5;exact ⟨a,b,c⟩
    case string=>obtain ⟨⟨a,b⟩,c⟩:=h5;exact ⟨a,b,c⟩
    case pointer e=>obtain ⟨⟨a,b⟩,c⟩:=h5;exact ⟨a,b,c⟩
    case map k e=>obtain ⟨⟨⟨⟨a,b⟩,c⟩,d⟩,f⟩:=h5;exact ⟨a,b,c,d,f⟩
    case func=>obtain ⟨⟨a,b⟩,c⟩:=h5;exact ⟨a,b,c⟩
   ·intro ha hn
    rcases h6 with (h6|h6)|h6
    ·exact absurd h6 hn
    ·rw [ha] at h6;cases h6
    ·cases d<;>simp at h6
     exact ⟨_,_,hd⟩
  ·simp at h
 ·simp at h
def tabCheck (P:Program):List (TypeId×TI)→Bool
 |[]=>true
 |(t,ti)::r=>tiCheck P t ti&&tabCheck P r
theorem TtOk_of {P:Program} {tab:List (TypeId×TI)} (h:tabCheck P tab=true) (he:∀ t ti,(t,ti)∈tab→ti.eqOk=true→ti.agg=true∧EqLaw P t ti.cks∧KeyLaw P t ti.cks):TtOk P (findT tab):=by
 induction tab with
 |nil=>intro t ti h;simp [findT] at h
 |cons x r ih=>
  obtain ⟨k,i⟩:=x
  simp only [tabCheck,Bool.and_eq_true] at h
  intro t ti hf
  simp only [findT] at hf
  cases hb:nb k t with
  |true=>
   rw [hb] at hf
   simp at hf;subst hf
   have:=nb_of hb
   subst this
   exact tiCheck_ok h.1 (he k i (by simp))
  |false=>
   rw [hb] at hf
   exact ih h.2 (fun t ti hm=>he t ti (by simp [hm])) t ti hf
def eqFieldsOk (P:Program):Nat→List Go.Field→List CK→Bool
 |_,[],[]=>true
 |k,f::fs,c::cs=>decide (f.offset=k)&&decide (f.name≠ "_")&&(match P.underlying f.type,c with
  |some (.int k),.int k'=>decide (k=k')
  |some .bool,.bool=>true
  |some .string,.str=>true
  |_,_=>false)&&eqFieldsOk P (k+1) fs cs
 |_,_,_=>false
def eqCheck (P:Program) (t:TypeId) (cks:List CK):Bool:=
 match P.underlying t with
 |some (.struct fs)=>eqFieldsOk P 0 fs.toList cks&& !(P.stoodInHeld t)&& !(P.eqGuardType P.depth t)
 |_=>false
theorem eqFields_ok {P:Program} (w:World) (d:Nat):∀ (fs:List Go.Field) (cs:List CK) (k:Nat) (us vs:List Value),eqFieldsOk P k fs cs=true→us.length=k+cs.length→vs.length=k+cs.length→
 (∀ (j:Nat) c u,cs[j]? =some c→us[k+j]? =some u→isScalar c u)→(∀ (j:Nat) c u,cs[j]? =some c→vs[k+j]? =some u→isScalar c u)→
 (Op.eqFields (d+1) ⟨us⟩ ⟨vs⟩ fs).run P w= .ok (sEqs (us.drop k) (vs.drop k)) w
 |[],[],k,us,vs,_,hu,hv,_,_=>by
  rw [List.drop_eq_nil_of_le (by simp at hu;omega),List.drop_eq_nil_of_le (by simp at hv;omega)]
  rfl
 |f::fs,c::cs,k,us,vs,h,hu,hv,su,sv=>by
  simp only [eqFieldsOk,Bool.and_eq_true,decide_eq_true_eq] at h
  obtain ⟨⟨⟨h1,h2⟩,h3⟩,h4⟩:=h
  simp only [List.length_cons] at hu hv
  have hku:k<us.length:=by omega
  have hkv:k<vs.length:=by omega
  have ih:=eqFields_ok (P:=P) w d fs cs (k+1) us vs h4 (by omega) (by omega)
   (fun j c u hc hx=>su (j+1) c u (by simpa using hc) (by rw [show k+(j+1)=k+1+j by omega];exact hx))
   (fun j c u hc hx=>sv (j+1) c u (by simpa using hc) (by rw [show k+(j+1)=k+1+j by omega];exact hx))
  have s1:=su 0 c us[k] rfl (by simp [hku])
  have s2:=sv 0 c vs[k] rfl (by simp [hkv])
  rw [List.drop_eq_getElem_cons hku,List.drop_eq_getElem_cons hkv]
  have ep:∀ (l:List Value) (hl:k<l.length) (desc:TypeDesc),P.underlying f.type=some desc→(∀ fs,desc≠ .struct fs)→(∀ n e,desc≠ .array n e)→(part f.type ⟨l⟩ f.offset).run P w= .ok l[k] w:=by
   intro l hl desc hd n1 n2
   unfold part isAgg
   simp only [Sem.run_bind,run_underlying hd,Result.andThen_ok]
   cases desc<;>first|exact absurd rfl (n1 _)|exact absurd rfl (n2 _ _)|simp [h1,hl]
  have fin:∀ desc,P.underlying f.type=some desc→(∀ fs,desc≠ .struct fs)→(∀ n e,desc≠ .array n e)→(Op.equalIn (d+1) f.type us[k] vs[k]).run P w= .ok (sEq us[k] vs[k]) w→
   (Op.eqFields (d+1) ⟨us⟩ ⟨vs⟩ (f::fs)).run P w= .ok (sEqs (us[k]::us.drop (k+1)) (vs[k]::vs.drop (k+1))) w:=by
   intro desc hd n1 n2 he
   have e1:=ep us hku desc hd n1 n2
   have e2:=ep vs hkv desc hd n1 n2
   simp only [Op.eqFields,if_pos h2,Sem.run_bind,e1,e2,Result.andThen_ok,he,sEqs]
   cases sEq us[k] vs[k] with
   |true=>simpa using ih
   |false=>simp
  split at h3
  ·rename_i k1 k2 hd
   obtain ⟨n1,e1⟩:=s1
   obtain ⟨n2,e2⟩:=s2
   refine fin _ hd (fun _ h=>by cases h) (fun _ _ h=>by cases h) ?_
   rw [e1,e2,run_equalIn_int w d f.type _ _ _ _ hd];rfl
  ·rename_i hd
   obtain ⟨n1,e1⟩:=s1
   obtain ⟨n2,e2⟩:=s2
   refine fin _ hd (fun _ h=>by cases h) (fun _ _ h=>by cases h) ?_
   rw [e1,e2,run_equalIn_bool' w d f.type _ _ hd];rfl
  ·rename_i hd
   obtain ⟨n1,e1⟩:=s1
   obtain ⟨n2,e2⟩:=s2
   refine fin _ hd (fun _ h=>by cases h) (fun _ _ h=>by cases h) ?_
   rw [e1,e2,run_equalIn_string w d f.type _ _ hd,ByteArray.toList_eq,ByteArray.toList_eq];rfl
  ·simp at h3
 |[],_::_,_,_,_,h,_,_,_,_=>by simp [eqFieldsOk] at h
 |_::_,[],_,_,_,h,_,_,_,_=>by simp [eqFieldsOk] at h
theorem eqLaw_of {P:Program} {t:TypeId} {cks:List CK} (h:eqCheck P t cks=true):EqLaw P t cks:=by
 unfold eqCheck at h
 split at h
 ·rename_i fs hd
  simp only [Bool.and_eq_true,Bool.not_eq_true'] at h
  obtain ⟨⟨h1,h2⟩,h3⟩:=h
  intro op x y us vs w hop hu hv su sv
  have hf:P.fieldsOf t=fs:=by simp [Program.fieldsOf,hd]
  have heq:(Op.equalIn 10000 t (.agg ⟨us⟩) (.agg ⟨vs⟩)).run P w= .ok (sEqs us vs) w:=by
   have:=run_equalIn_struct (P:=P) w 9999 t ⟨us⟩ ⟨vs⟩ (by rw [hf];exact hd) h2
   rw [hf] at this
   rw [this]
   have:=eqFields_ok (P:=P) w 9998 fs.toList cks 0 us vs h1 (by omega) (by omega) (by simpa using su) (by simpa using sv)
   simpa using this
  have hg:=run_eqGuard_agg (P:=P) w op t x y ⟨us⟩ ⟨vs⟩ h3
  rcases hop with rfl|rfl
  ·simp only [Sem.run_bind,hg,Result.andThen_ok,run_eql_struct,heq,if_true]
  ·simp only [Sem.run_bind,hg,Result.andThen_ok,run_neq_struct,heq]
   rfl
 ·simp at h
theorem keyFields_ok {P:Program} (w:World) (b:Bool):∀ (fs:List Go.Field) (cs:List CK) (k:Nat) (us:List Value),eqFieldsOk P k fs cs=true→us.length=k+cs.length→
 (∀ (j:Nat) c u,cs[j]? =some c→us[k+j]? =some u→isScalar c u)→
 (forIn (m:=Sem) fs PUnit.unit (fun f _=>if f.name≠ "_" then (do let x ←part f.type ⟨us⟩ f.offset;Instr.checkKey b 9999 f.type x;pure (ForInStep.yield PUnit.unit)) else pure (ForInStep.yield PUnit.unit))).run P w= .ok PUnit.unit w
 |[],_,_,_,_,_,_=>by simp
 |f::fs,[],_,_,h,_,_=>by simp [eqFieldsOk] at h
 |f::fs,c::cs,k,us,h,hu,su=>by
  simp only [eqFieldsOk,Bool.and_eq_true,decide_eq_true_eq] at h
  obtain ⟨⟨⟨h1,h2⟩,h3⟩,h4⟩:=h
  simp only [List.length_cons] at hu
  have hku:k<us.length:=by omega
  have ih:=keyFields_ok (P:=P) w b fs cs (k+1) us h4 (by omega) (fun j c u hc hx=>su (j+1) c u (by simpa using hc) (by rw [show k+(j+1)=k+1+j by omega];exact hx))
  have s1:=su 0 c us[k] rfl (by simp [hku])
  have ep:∀ (desc:TypeDesc),P.underlying f.type=some desc→(∀ fs,desc≠ .struct fs)→(∀ n e,desc≠ .array n e)→(part f.type ⟨us⟩ f.offset).run P w= .ok us[k] w:=by
   intro desc hd n1 n2
   unfold part isAgg
   simp only [Sem.run_bind,run_underlying hd,Result.andThen_ok]
   cases desc<;>first|exact absurd rfl (n1 _)|exact absurd rfl (n2 _ _)|simp [h1,hku]
  have fin:∀ desc,P.underlying f.type=some desc→(∀ fs,desc≠ .struct fs)→(∀ n e,desc≠ .array n e)→(Instr.checkKey b 9999 f.type us[k]).run P w= .ok () w→
   (forIn (m:=Sem) (f::fs) PUnit.unit (fun f _=>if f.name≠ "_" then (do let x ←part f.type ⟨us⟩ f.offset;Instr.checkKey b 9999 f.type x;pure (ForInStep.yield PUnit.unit)) else pure (ForInStep.yield PUnit.unit))).run P w= .ok PUnit.unit w:=by
   intro desc hd n1 n2 he
   have e1:=ep desc hd n1 n2
   simp only [List.forIn_cons,if_pos h2,Sem.run_bind,e1,he,Result.andThen_ok,Sem.run_pure]
   exact ih
  split at h3
  ·rename_i k1 k2 hd
   obtain ⟨n1,e1⟩:=s1
   refine fin _ hd (fun _ h=>by cases h) (fun _ _ h=>by cases h) ?_
   rw [e1,show (9999:Nat)=9998+1 from rfl,Instr.checkKey];simp only [Sem.run_bind,run_underlying hd,Result.andThen_ok,Sem.run_pure]
  ·rename_i hd
   obtain ⟨n1,e1⟩:=s1
   refine fin _ hd (fun _ h=>by cases h) (fun _ _ h=>by cases h) ?_
   rw [e1,show (9999:Nat)=9998+1 from rfl,Instr.checkKey];simp only [Sem.run_bind,run_underlying hd,Result.andThen_ok,Sem.run_pure]
  ·rename_i hd
   obtain ⟨n1,e1⟩:=s1
   refine fin _ hd (fun _ h=>by cases h) (fun _ _ h=>by cases h) ?_
   rw [e1,show (9999:Nat)=9998+1 from rfl,Instr.checkKey];simp only [Sem.run_bind,run_underlying hd,Result.andThen_ok,Sem.run_pure]
  ·simp at h3
theorem keyLaw_of {P:Program} {t:TypeId} {cks:List CK} (h:eqCheck P t cks=true):KeyLaw P t cks:=by
 unfold eqCheck at h
 split at h
 ·rename_i fs hd
  simp only [Bool.and_eq_true,Bool.not_eq_true'] at h
  obtain ⟨⟨h1,h2⟩,h3⟩:=h
  refine ⟨⟨fs,hd⟩,?_⟩
  intro us vs w hu hv su sv
  have hf:P.fieldsOf t=fs:=by simp [Program.fieldsOf,hd]
  refine ⟨?_,fun b=> ?_⟩
  ·have:=run_equalIn_struct (P:=P) w 9999 t ⟨us⟩ ⟨vs⟩ (by rw [hf];exact hd) h2
   rw [hf] at this
   unfold Op.equal Op.maxDepth
   rw [this]
   have:=eqFields_ok (P:=P) w 9998 fs.toList cks 0 us vs h1 (by omega) (by omega) (by simpa using su) (by simpa using sv)
   simpa using this
  ·have:=keyFields_ok (P:=P) w b fs.toList cks 0 us h1 (by omega) (by simpa using su)
   rw [show (10000:Nat)=9999+1 from rfl,Instr.checkKey]
   simp only [Sem.run_bind,run_underlying hd,Result.andThen_ok]
   rw [← Array.forIn_toList]
   have h9:∀ {r:Result PUnit},r= .ok PUnit.unit w→(r.andThen fun _ w'=>Sem.run P (pure ()) w')= .ok () w:=fun h=>by rw [h];rfl
   exact h9 this
 ·simp at h
def eqTabCheck (P:Program):List (TypeId×TI)→Bool
 |[]=>true
 |(t,ti)::r=>(!ti.eqOk||(ti.agg&&eqCheck P t ti.cks))&&eqTabCheck P r
theorem eqTab_ok {P:Program}:∀ {tab:List (TypeId×TI)},eqTabCheck P tab=true→∀ t ti,(t,ti)∈tab→ti.eqOk=true→ti.agg=true∧EqLaw P t ti.cks∧KeyLaw P t ti.cks
 |[],_,t,ti,h,_=>by simp at h
 |(k,i)::r,h,t,ti,hm,he=>by
  simp only [eqTabCheck,Bool.and_eq_true,Bool.or_eq_true,Bool.not_eq_true'] at h
  rcases List.mem_cons.1 hm with e|e
  ·cases e
   rcases h.1 with h1|h1
   ·rw [he] at h1;simp at h1
   ·exact ⟨h1.1,eqLaw_of h1.2,keyLaw_of h1.2⟩
  ·exact eqTab_ok h.2 t ti e he
end Go.VC
end

section
namespace Go.VC
open Go
def SubP (n0:Nat) (st st2:St):Prop:=∃ ps,(nodupL ps&&upTo n0 0 ps)=true∧Sub n0 (pickSt ps st) st2
section
variable {P:Program} {tt:TypeId→Option TI} {N n0:Nat} {B:Base} {E:List RI} {Pp:Per} {w:World} {st:St} {a:Act} {ps:List Nat}
theorem pick_own {ps:List Nat} {s:Slots} {o:List Ob} (hw:WR tt E Pp o w):∀ b,own (ps.map fun r=>E.getD r .row0) (pickSt ps ⟨s,o⟩).o b→own E o b:=by
 rintro b ⟨i,q,ri,h1,h2,h3,h4⟩
 obtain ⟨r,o',a1,a2,a3,a4⟩:=pick_blk hw h1 h2 h3
 exact ⟨r,o',ri,a2,a3,a4,h4⟩
theorem loop_ruleP {r:Option Nat} {α:Type} {c:Code} {Q:Ex→St→Prop} (I:α→St) (φ:α→Prop) (μ:α→Nat) (x0:α) (h0:φ x0) (hst:SubP n0 st (I x0))
 (round:∀ x,φ x→PWp P tt N n0 r c (I x) fun e st'=>match e with| .normal=>∃ x',φ x'∧μ x'<μ x∧SubP n0 st' (I x')| .exit i=>Q (.exit i) st'| .ret=>Q .ret st'):PWp P tt N n0 r (.loop c) st Q:=
 loop_gen (SubP n0) (fun {B E Pp st st2 a w} hb h hk=>by
  obtain ⟨ps,h1,h2⟩:=hk
  exact ⟨_,(h.pick hb h1).sub hb h2,fun b hb2=>pick_own h.wr b (h2.own b hb2)⟩) I φ μ x0 h0 hst round
theorem Ctx.loopP {G:Cfg} {A:Alg} {C:CallP} {L:Code→St→(Ex→St→Prop)→Prop} (X:Ctx P G A C L)
 {α:Type} (I:α→St) (φ:α→Prop) (μ:α→Nat) (x0:α) {c:Code} {st:St} {Q:Ex→St→Prop} (h0:φ x0) (hst:SubP G.n0 st (I x0))
 (round:∀ x,φ x→pwp A G C L c (I x) fun e st'=>match e with| .normal=>∃ x',φ x'∧μ x'<μ x∧SubP G.n0 st' (I x')| .exit i=>Q (.exit i) st'| .ret=>Q .ret st'):L (.loop c) st Q:=by
 obtain ⟨rfl,rfl,⟨r,_,rfl⟩,htt,hm⟩:=X
 exact loop_ruleP I φ μ x0 h0 hst fun x hx=>pwp_ok htt hm c _ _ (round x hx)
theorem Ctx.cut {G:Cfg} {A:Alg} {C:CallP} {L:Code→St→(Ex→St→Prop)→Prop} (X:Ctx P G A C L)
 {α:Type} (I:α→St) (φ:α→Prop) {id:Nat} {ops:Array Oper} {d:Bool} {st:St} {Q:Ex→St→Prop}
 (h1:regP A G C id ops d st fun st'=>∃ x,φ x∧SubP G.n0 st' (I x)) (h2:∀ x,φ x→Q .normal (I x)):L (.region id ops d) st Q:=by
 obtain ⟨rfl,rfl,⟨r,_,rfl⟩,htt,hm⟩:=X
 intro B E Pp a w hb hs
 refine wpIn_mono (regP_ok htt hm id ops d st (fun e st'=>match e with| .normal=>∃ x,φ x∧SubP G.n0 st' (I x)|_=>False) h1 B E Pp a w hb hs) ?_
 rintro e a' w' ⟨ex,st',E',Pp',he,hs',hmk,hz,hq⟩
 cases ex<;>simp only at hq
 obtain ⟨x,h3,ps,h4,h5⟩:=hq
 exact ⟨.normal,I x,_,Pp',he,(Sim.pick (B:=B.at a'.defers) hb hs' h4).sub (B:=B.at a'.defers) hb h5,hmk.sub (fun b hb2=>pick_own hs'.wr b (h5.own b hb2)),hz,h2 x h3⟩
end
end Go.VC
end

section
namespace Go.VC
open Go
section
variable {P:Program} {G:Cfg} {A:Alg} {C:CallP} {L:Code→St→(Ex→St→Prop)→Prop}
theorem FC.enterS {G:Cfg} (htt:TtOk P G.tt) (hm:P.follows .mixedOrders=true) {f:FuncId} {fn:Func} {c:Code} (hf:Has P f fn c) (hN:fn.ntmps=G.n) (hn0:G.n0=0) {args:List PV} (hlen:nle (lenL args) G.n=true) {K:PV→List Ob→Prop}
 (h:∀ (A:Alg) (C:CallP) (L:Code→St→(Ex→St→Prop)→Prop),Ctx P G A C L→
   L c ⟨initS 0 args,[]⟩ fun e st=>match e with| .exit _=>False|_=>retK G 0 fn.results.toList st K):FC P G.tt f [] args K:=
 FC_ofP htt hm hf.name hf.f hf.b hN hn0 hlen (h _ _ _ ⟨rfl,rfl,⟨none,fun _=>rfl,rfl⟩,htt,hm⟩)
theorem Ctx.run (X:Ctx P G A C L) {c:Code} {st:St} {Q:Ex→St→Prop} (h:pwp A G C L c st Q):L c st Q:=by
 obtain ⟨rfl,rfl,⟨r,_,rfl⟩,htt,hm⟩:=X
 exact pwp_ok htt hm c _ _ h
theorem Ctx.seq (X:Ctx P G A C L) {x y:Code} {st:St} {Q:Ex→St→Prop} (h:pwp A G C L x st fun e st'=>match e with| .normal=>L y st' Q| .exit i=>Q (.exit i) st'| .ret=>Q .ret st'):L (.seq x y) st Q:=by
 obtain ⟨rfl,rfl,⟨r,_,rfl⟩,htt,hm⟩:=X
 have h:=pwp_ok (r:=r) htt hm x _ _ h
 intro B E Pp a w hb hs
 refine wpIn_seq (wpIn_mono (h B E Pp a w hb hs) ?_)
 rintro e a' w' ⟨ex,st',E',Pp',he,hs',hm',hsz,hq⟩
 cases e<;>cases ex<;>simp only [exOk] at he
 ·refine wpIn_mono (hq (B.here E' Pp' st'.o a'.defers w') E' Pp' a' w' hb hs'.here) ?_
  rintro e2 a2 w2 ⟨ex2,st2,E2,Pp2,he2,k,m2,sz2,q2⟩
  exact ⟨ex2,st2,E2,Pp2,he2,Sim.back (B:=B.at a'.defers) hs' k,Mk.trans hsz hm' k m2,Nat.le_trans hsz sz2,q2⟩
 ·subst he;exact ⟨.exit _,st',E',Pp',rfl,hs',hm',hsz,hq⟩
 ·exact ⟨.ret,st',E',Pp',trivial,hs',hm',hsz,hq⟩
theorem Ctx.weak (X:Ctx P G A C L) {c:Code} {st st2:St} {Q:Ex→St→Prop} (hk:SubP G.n0 st st2) (h:L c st2 Q):L c st Q:=by
 obtain ⟨rfl,rfl,⟨r,_,rfl⟩,htt,hm⟩:=X
 intro B E Pp a w hb hs
 obtain ⟨ps,h4,h5⟩:=hk
 have hs2:=(hs.pick hb h4).sub hb h5
 refine wpIn_mono (h (B.here _ Pp st2.o a.defers w) _ Pp a w hb hs2.here) ?_
 rintro e2 a2 w2 ⟨ex2,st3,E2,Pp2,he2,k,m2,sz2,q2⟩
 exact ⟨ex2,st3,E2,Pp2,he2,Sim.back (B:=B.at a.defers) hs2.at k,Mk.trans (Nat.le_refl _) (Mk.none rfl) k m2,sz2,q2⟩
theorem Ctx.mid (X:Ctx P G A C L) {α:Type} (I:α→St) (φ:α→Prop) {x y:Code} {st:St} {Q:Ex→St→Prop}
 (h1:pwp A G C L x st fun e st'=>match e with| .normal=>∃ z,φ z∧SubP G.n0 st' (I z)| .exit i=>Q (.exit i) st'| .ret=>Q .ret st') (h2:∀ z,φ z→L y (I z) Q):L (.seq x y) st Q:=by
 have h3:∀ st',(∃ z,φ z∧SubP G.n0 st' (I z))→L y st' Q:=fun st' ⟨z,hz,hk⟩=>X.weak hk (h2 z hz)
 clear h2
 obtain ⟨rfl,rfl,⟨r,_,rfl⟩,htt,hm⟩:=X
 have h:=pwp_ok (r:=r) htt hm x _ _ h1
 intro B E Pp a w hb hs
 refine wpIn_seq (wpIn_mono (h B E Pp a w hb hs) ?_)
 rintro e a' w' ⟨ex,st',E',Pp',he,hs',hm',hsz,hq⟩
 cases e<;>cases ex<;>simp only [exOk] at he
 ·refine wpIn_mono (h3 st' hq (B.here E' Pp' st'.o a'.defers w') E' Pp' a' w' hb hs'.here) ?_
  rintro e2 a2 w2 ⟨ex2,st2,E2,Pp2,he2,k,m2,sz2,q2⟩
  exact ⟨ex2,st2,E2,Pp2,he2,Sim.back (B:=B.at a'.defers) hs' k,Mk.trans hsz hm' k m2,Nat.le_trans hsz sz2,q2⟩
 ·subst he;exact ⟨.exit _,st',E',Pp',rfl,hs',hm',hsz,hq⟩
 ·exact ⟨.ret,st',E',Pp',trivial,hs',hm',hsz,hq⟩
end
end Go.VC
end

section
namespace Go.VC
open Go
/-! ### rows that are handed are taken over: they lie behind,by numbers of the callee's own -/
def rowIxsT (T:List Nat):List Ob→Nat→List Nat
 |[],_=>[]
 | .row e _ _::l,i=>(match memL e T with|true=>rowIxsT T l (i+1)|false=>i::rowIxsT T l (i+1))
 |_::l,i=>rowIxsT T l (i+1)
abbrev rowIxs:=rowIxsT []
def mvF (R:List Nat) (n j:Nat):Nat:=match ixOf R n j with|some k=>k|none=>j
def mv1 (T:List Nat) (f:Nat→Nat):Ob→Ob
 | .row e d w=>(match memL e T with|true=>.row e d w|false=>.dead)
 |o=>renO f o
def mvOT (T:List Nat) (R:List Nat) (n:Nat) (objs:List Ob):List Ob:=appL (mapL (mv1 T (mvF R n)) objs) (mapL (getO objs) R)
abbrev mvO:=mvOT []
def liveT (T:List Nat) (objs:List Ob) (args:List PV):St:=⟨initS 0 (mapL (renP (mvF (rowIxsT T objs 0) (lenL objs)) 8) args),mvOT T (rowIxsT T objs 0) (lenL objs) objs⟩
def liveStart (objs:List Ob) (args:List PV):St:=liveT [] objs args
def iotaL:Nat→Nat→List Nat
 |0,_=>[]
 |n+1,k=>k::iotaL n (k+1)
def refsO:Ob→List Nat
 | .box cs=>catL (refs1 8) cs
 | .loop _ _ _ _ s _=>catL (fun (x:Nat×PV)=>refs1 8 x.2) s
 |_=>[]
def keepL (n0:Nat) (st:St) (v:PV):List Nat:=reach st.o 64 (appL (refs1 8 v) (catL (fun i=>refsO (getO st.o i)) (iotaL n0 0))) (iotaL n0 0)
def outK (n0:Nat) (v:PV) (o:List Ob) (ps:List Nat) (K:PV→List Ob→Prop):Prop:=
 bif nodupL ps&&upTo n0 0 ps then K (pickP ps 8 v) (mapL (fun r=>pickO ps (getO o r)) ps) else False
def retLiveK (G:Cfg) (n0:Nat) (rs:List ResultVar) (st:St) (K:PV→List Ob→Prop):Prop:=match resOf G st rs with
 |some v=>outK n0 v st.o (keepL n0 st v) K
 |none=>False
section
variable {P:Program} {tt:TypeId→Option TI} {G:Cfg} {N:Nat} {B:Base} {E:List RI} {Pp:Per} {objs:List Ob} {w:World} {st:St} {a:Act}
theorem rowIxs_mem (T:List Nat):∀ (l:List Ob) (k r:Nat),r∈rowIxsT T l k↔∃ i e d wr,r=k+i∧l[i]? =some (.row e d wr)∧memL e T=false
 |[],k,r=>by simp [rowIxsT]
 |o::l,k,r=>by
  have ih:=rowIxs_mem T l (k+1) r
  have key:(∃ i e d wr,r=k+i∧(o::l)[i]? =some (.row e d wr)∧memL e T=false)↔((∃ e d wr,r=k∧o= .row e d wr∧memL e T=false)∨∃ i e d wr,r=k+1+i∧l[i]? =some (.row e d wr)∧memL e T=false):=by
   constructor
   ·rintro ⟨i,e,d,wr,h1,h2,h3⟩
    cases i with
    |zero=>exact .inl ⟨e,d,wr,h1,by simpa using h2,h3⟩
    |succ i=>exact .inr ⟨i,e,d,wr,by omega,by simpa using h2,h3⟩
   ·rintro (⟨e,d,wr,h1,h2,h3⟩|⟨i,e,d,wr,h1,h2,h3⟩)
    ·exact ⟨0,e,d,wr,h1,by simp [h2],h3⟩
    ·exact ⟨i+1,e,d,wr,by omega,by simpa using h2,h3⟩
  rw [key,←ih]
  cases o with
  |row e d w=>
   simp only [rowIxsT]
   cases hm:memL e T with
   |true=>
    constructor
    ·intro h;exact .inr h
    ·rintro (⟨e',d',wr',_,h2,h3⟩|h)
     ·cases h2;rw [hm] at h3;cases h3
     ·exact h
   |false=>
    simp only [List.mem_cons]
    constructor
    ·rintro (rfl|h)
     ·exact .inl ⟨e,d,w,rfl,rfl,hm⟩
     ·exact .inr h
    ·rintro (⟨e',d',wr',h1,h2,h3⟩|h)
     ·exact .inl h1
     ·exact .inr h
  |_=>simp [rowIxsT]
theorem rowIxs_low (T:List Nat):∀ (l:List Ob) (k r:Nat),r∈rowIxsT T l k→k≤r:=by
 intro l k r h
 obtain ⟨i,_,_,_,h1,_⟩:=(rowIxs_mem T l k r).1 h
 omega
theorem rowIxs_nodup (T:List Nat):∀ (l:List Ob) (k:Nat),(rowIxsT T l k).Nodup
 |[],_=>List.nodup_nil
 |o::l,k=>by
  have ih:=rowIxs_nodup T l (k+1)
  cases o<;>simp only [rowIxsT]<;>first|exact ih|skip
  split
  ·exact ih
  rw [List.nodup_cons]
  exact ⟨fun h=>by have:=rowIxs_low T l (k+1) k h;omega,ih⟩
theorem WR.mv (T:List Nat) (hw:WR tt E Pp objs w):∃ E1,Eok E E1∧(∀ (i:Nat) x,E[i]? =some x→E1[mvF (rowIxsT T objs 0) (lenL objs) i]? =some x)∧WR tt E1 Pp (mvOT T (rowIxsT T objs 0) (lenL objs) objs) w∧
 ∀ b,own E1 (mvOT T (rowIxsT T objs 0) (lenL objs) objs) b→own E objs b:=by
 generalize hR:rowIxsT T objs 0=R
 have hRnd:R.Nodup:=hR▸rowIxs_nodup T objs 0
 have hRrow:∀ r∈R,∃ e d wr,objs[r]? =some (.row e d wr)∧memL e T=false:=by
  intro r hr
  rw [← hR] at hr
  obtain ⟨i,e,d,wr,h1,h2,h3⟩:=(rowIxs_mem T objs 0 r).1 hr
  rw [h1,Nat.zero_add]
  exact ⟨e,d,wr,h2,h3⟩
 have hl:=hw.len
 rw [lenL_eq]
 have hE1:∀ (i:Nat) x,E[i]? =some x→(E++R.map fun r=>E.getD r .row0)[i]? =some x:=fun i x h=>app_left h
 have hE2:∀ (k r:Nat) x,R[k]? =some r→E[r]? =some x→(E++R.map fun r=>E.getD r .row0)[objs.length+k]? =some x:=by
  intro k r x hk hx
  rw [← hl]
  exact app_right (pick_E hk hx)
 have hf:∀ (i:Nat) x,E[i]? =some x→(E++R.map fun r=>E.getD r .row0)[mvF R objs.length i]? =some x:=by
  intro i x hx
  unfold mvF
  split
  ·rename_i k hk
   obtain ⟨j,rfl,hj⟩:=ixOf_some hk
   exact hE2 j i x hj hx
  ·exact hE1 i x hx
 have cases3:∀ (i:Nat) o,(mvOT T R objs.length objs)[i]? =some o→o.live=true→(i<objs.length∧∃ o',objs[i]? =some o'∧o'.live=true∧(∀ e d wr,o'= .row e d wr→memL e T=true)∧o=renO (mvF R objs.length) o')∨
  ∃ k r,i=objs.length+k∧R[k]? =some r∧objs[r]? =some o∧∃ e d wr,o= .row e d wr∧memL e T=false:=by
  intro i o ho hlv
  unfold mvOT at ho
  rw [appL_eq] at ho
  rcases app_get ho with ⟨h1,h2⟩|⟨k,h1,h2⟩
  ·rw [mapL_eq,List.length_map] at h1
   rw [mapL_eq,List.getElem?_map] at h2
   cases hx:objs[i]? with
   |none=>rw [hx] at h2;simp at h2
   |some o'=>
    rw [hx] at h2
    simp only [Option.map_some,Option.some.injEq] at h2
    refine .inl ⟨h1,o',rfl,?_⟩
    cases o' with
    |row e d w=>
     simp only [mv1] at h2
     cases hm:memL e T with
     |true=>rw [hm] at h2;subst h2;exact ⟨rfl,(fun _ _ _ h=>by cases h;exact hm),rfl⟩
     |false=>rw [hm] at h2;subst h2;cases hlv
    |_=>simp only [mv1] at h2;subst h2;first|(simp [renO,Ob.live] at hlv;done)|exact ⟨rfl,(fun _ _ _ h=>by cases h),rfl⟩
  ·rw [mapL_eq,List.length_map] at h1
   rw [mapL_eq,List.getElem?_map] at h2
   cases hx:R[k]? with
   |none=>rw [hx] at h2;simp at h2
   |some r=>
    rw [hx] at h2
    simp only [Option.map_some,Option.some.injEq] at h2
    obtain ⟨e,d,wr,hr,hm⟩:=hRrow r (List.mem_of_getElem? hx)
    have hg:getO objs r= .row e d wr:=by rw [getO_eq];simp [List.getD,hr]
    rw [hg] at h2;subst h2
    exact .inr ⟨k,r,h1,hx,hr,e,d,wr,rfl,hm⟩
 -- where it lay
 have src:∀ (i:Nat) o ri,(mvOT T R objs.length objs)[i]? =some o→o.live=true→(E++R.map fun r=>E.getD r .row0)[i]? =some ri→∃ j o',objs[j]? =some o'∧o'.live=true∧E[j]? =some ri∧
  ((i=j∧i<objs.length∧∀ e d wr,o'= .row e d wr→memL e T=true)∨∃ k e d wr,i=objs.length+k∧R[k]? =some j∧o'= .row e d wr∧memL e T=false):=by
  intro i o ri ho hlv hri
  rcases cases3 i o ho hlv with ⟨h1,o',h2,h3,h4,_⟩|⟨k,r,rfl,h2,h3,e,d,wr,rfl,hm⟩
  ·obtain ⟨ri',hri',_⟩:=hw.ob i o' h2 h3
   have:=hE1 i ri' hri'
   rw [hri] at this;cases this
   exact ⟨i,o',h2,h3,hri',.inl ⟨rfl,h1,h4⟩⟩
  ·obtain ⟨ri',hri',_⟩:=hw.ob r _ h3 rfl
   have:=hE2 k r ri' h2 hri'
   rw [hri] at this;cases this
   exact ⟨r,_,h3,rfl,hri',.inr ⟨k,e,d,wr,rfl,h2,rfl,hm⟩⟩
 refine ⟨E++R.map fun r=>E.getD r .row0,.of hE1,hf,⟨?_,hw.pi,?_,?_,hw.gl⟩,?_⟩
 ·simp [mvOT,appL_eq,mapL_eq,hl]
 ·intro i o ho hlv
  rcases cases3 i o ho hlv with ⟨h1,o',h2,h3,h4,rfl⟩|⟨k,r,rfl,h2,h3,e,d,wr,rfl,hm⟩
  ·obtain ⟨ri,hri,hor⟩:=hw.ob i o' h2 h3
   exact ⟨ri,hE1 i ri hri,OR.renO hf hlv hor⟩
  ·obtain ⟨ri,hri,hor⟩:=hw.ob r _ h3 rfl
   exact ⟨ri,hE2 k r ri h2 hri,hor.goes rfl rfl⟩
 ·intro i j oi oj ri rj b hi hj hli hlj hEi hEj hbi hbj
  obtain ⟨i',oi',h1,h2,h3,h4⟩:=src i oi ri hi hli hEi
  obtain ⟨j',oj',k1,k2,k3,k4⟩:=src j oj rj hj hlj hEj
  have:=hw.sep i' j' oi' oj' ri rj b h1 k1 h2 k2 h3 k3 hbi hbj
  subst this
  rw [h1] at k1;cases k1
  rcases h4 with ⟨rfl,_,h5⟩|⟨k,e,d,wr,rfl,h6,rfl,h7⟩<;>rcases k4 with ⟨rfl,_,k5⟩|⟨k',e',d',wr',rfl,k6,e1,k7⟩
  ·rfl
  ·rw [h5 _ _ _ e1] at k7;cases k7
  ·rw [k5 _ _ _ rfl] at h7;cases h7
  ·rw [nodup_idx' hRnd h6 k6]
 ·rintro b ⟨i,o,ri,h1,h2,h3,h4⟩
  obtain ⟨j,o',k1,k2,k3,_⟩:=src i o ri h1 h2 h3
  exact ⟨j,o',ri,k1,k2,k3,h4⟩
 where nodup_idx' {l:List Nat} (h:l.Nodup) {i j x:Nat} (hi:l[i]? =some x) (hj:l[j]? =some x):i=j:=
 (List.getElem?_inj (List.getElem?_eq_some_iff.1 hi).1 h).1 (hi.trans hj.symm)
theorem startT (T:List Nat) {fn:Func} (hN:fn.ntmps=G.n) {args:List PV} (hlen:nle (lenL args) G.n=true):∀ E Pp w vals,WR G.tt E Pp objs w→VRL G.tt E Pp vals args→∃ E1,Sim G.tt G.n { w0:=w,E0:=E,P0:=Pp,own0:=own E objs } E1 Pp (liveT T objs args) ⟨(⟨vals⟩:Array Value)++Array.replicate (fn.ntmps-(⟨vals⟩:Array Value).size) undef,[]⟩ w:=by
 intro E Pp w vals hw hv
 have hll:=hv.length
 rw [lenL_eq] at hlen
 have hle:=nle_of hlen
 obtain ⟨E1,h1,h2,h3,h4⟩:=hw.mv T
 exact ⟨E1,h3,initS_ok (renPs_ok h2 hv),by simp;omega,rfl,h1,fun _ _ h=>h,Fr.refl _ _,fun ad v h=>.inl h,fun i o ri b q1 q2 q3 q4=>.inr (h4 b ⟨i,o,ri,q1,q2,q3,q4⟩)⟩
theorem startL {fn:Func} (hN:fn.ntmps=G.n) {args:List PV} (hlen:nle (lenL args) G.n=true):∀ E Pp w vals,WR G.tt E Pp objs w→VRL G.tt E Pp vals args→∃ E1,Sim G.tt G.n { w0:=w,E0:=E,P0:=Pp,own0:=own E objs } E1 Pp (liveStart objs args) ⟨(⟨vals⟩:Array Value)++Array.replicate (fn.ntmps-(⟨vals⟩:Array Value).size) undef,[]⟩ w:=startT [] hN hlen
theorem outK_ok {v:Value} {pv:PV} {E':List RI} {Pp':Per} {w':World} {o':List Ob} {d:List Deferred} {s':Slots} {a':Act} {ps:List Nat} {K:PV→List Ob→Prop} (hw:WR tt E Pp objs w)
 (hs:Sim tt N { w0:=w,E0:=E,P0:=Pp,own0:=own E objs,d0:=d } E' Pp' ⟨s',o'⟩ a' w') (hv:VR tt E' Pp' v pv) (h:outK objs.length pv o' ps K):FCPost tt E Pp objs w K (.returned v) w':=by
 unfold outK at h
 cases hb:(nodupL ps&&upTo objs.length 0 ps) with
 |false=>rw [hb] at h;exact h.elim
 |true=>
  rw [hb] at h
  have hp:=hs.pick (n0:=objs.length) hw.len hb
  simp only [Bool.and_eq_true] at hb
  exact ⟨v,_,Pp',_,_,rfl,hp.pre,hp.per,hp.wr,pickP_ok (fun _ _ _=>pick_ix) 8 _ _ hv,h,hp.fr,hp.pnew,hp.fresh⟩
theorem FC.enterLive {G:Cfg} (htt:TtOk P G.tt) (hm:P.follows .mixedOrders=true) {f:FuncId} {fn:Func} {c:Code} (hf:Has P f fn c) (hN:fn.ntmps=G.n) {objs:List Ob} (hn0:lenL objs=G.n0) {args:List PV} (hlen:nle (lenL args) G.n=true) {K:PV→List Ob→Prop}
 (h:∀ (A:Alg) (C:CallP) (L:Code→St→(Ex→St→Prop)→Prop),Ctx P G A C L→
   pwp A G C L c (liveStart objs args) fun e st=>match e with| .exit _=>False|_=>retLiveK G G.n0 fn.results.toList st K):FC P G.tt f objs args K:=by
 rw [lenL_eq] at hn0
 refine FC_genL (fun _ _ _ h=>h) htt hm hf.name hf.f hf.b hn0 _ (startL hN hlen) (h _ _ _ ⟨rfl,rfl,⟨_,fun _=>rfl,rfl⟩,htt,hm⟩) ?_
 intro E Pp w E' Pp' st' a' w' d hw hr hs'
 unfold retLiveK at hr
 split at hr
 ·rename_i p hp
  obtain ⟨v,h1,h2⟩:=resOf_ok htt hs' hp
  rw [← hn0] at hr
  exact ⟨v,h1,outK_ok hw (s':=st'.s) (o':=st'.o) hs' h2 hr⟩
 ·exact hr.elim
/-! ### rounds -/
def setArgs:Slots→List Nat→List PV→Slots
 |s,t::ts,p::ps=>setArgs ((t,p)::s) ts ps
 |s,_,_=>s
def roundStart (s:Slots) (ps:List Nat) (objs:List Ob) (args:List PV):St:=
 ⟨setArgs (renS (mvF (rowIxs objs 0) (lenL objs)) s) ps (mapL (renP (mvF (rowIxs objs 0) (lenL objs)) 8) args),mvO (rowIxs objs 0) (lenL objs) objs⟩
def setLoop (st:St) (j:LS) (j':LS) (K:St→Prop):Prop:=match getO st.o 0 with
 | .loop n ps c1 c2 s i=>(match i,j with
  | .ready,.ready=>K ⟨st.s,setO st.o 0 (.loop n ps c1 c2 s j')⟩
  | .busy,.busy=>K ⟨st.s,setO st.o 0 (.loop n ps c1 c2 s j')⟩
  |_,_=>False)
 |_=>False
def roundEnd (n0:Nat) (e:Ex) (st:St) (K:PV→List Ob→Prop):Prop:=match e with
 | .normal=>setLoop st .busy .ready fun st=>outK n0 (.bl true) st.o (keepL n0 st (.bl true)) K
 | .ret=>setLoop st .busy (.done .ret) fun st=>outK n0 (.bl false) st.o (keepL n0 st (.bl false)) K
 | .exit id=>setLoop st .busy (.done (.exit id)) fun st=>outK n0 (.bl false) st.o (keepL n0 st (.bl false)) K
def allLtL (n:Nat):List Nat→Bool
 |[]=>true
 |x::l=>nlt x n&&allLtL n l
theorem setArgs_ok {E:List RI} {Pp:Per}:∀ (ps:List Nat) (args:List PV) (vals:List Value) (tmps:Array Value) (s:Slots),(∀ t,VR tt E Pp (tmps.getD t undef) (look s t))→VRL tt E Pp vals args→ps.length=args.length→(∀ t∈ps,t<tmps.size)→
 (∀ t,VR tt E Pp (((ps.zip vals).foldl (fun (tmps:Array Value) (x:Nat×Value)=>tmps.setIfInBounds x.1 x.2) tmps).getD t undef) (look (setArgs s ps args) t))∧((ps.zip vals).foldl (fun (tmps:Array Value) (x:Nat×Value)=>tmps.setIfInBounds x.1 x.2) tmps).size=tmps.size
 |[],[],_,tmps,s,hs,hv,_,_=>by cases hv;exact ⟨hs,rfl⟩
 |p::ps,q::args,_,tmps,s,hs,hv,hl,hlt=>by
  cases hv with
  |cons v _ vals _ hv1 hv2=>
   have hp:=hlt p (by simp)
   have:=setArgs_ok ps args vals (tmps.setIfInBounds p v) ((p,q)::s) (by
    intro t
    rw [look_cons]
    simp only [Array.getD_eq_getD_getElem?,Array.getElem?_setIfInBounds]
    split
    ·rename_i e;subst e;simp [hp];exact hv1
    ·rename_i e;simpa only [Array.getD_eq_getD_getElem?] using hs t) hv2 (by simpa using hl) (fun t ht=>by simpa using hlt t (by simp [ht]))
   refine ⟨this.1,this.2.trans (by simp)⟩
 |[],_::_,_,_,_,_,_,h,_=>by simp at h
 |_::_,[],_,_,_,_,_,h,_=>by simp at h
theorem Sim.setLoop {B:Base} {w:World} {j j':LS} {K:St→Prop} (h:Sim tt N B E Pp st a w) (hc:VC.setLoop st j j' K):∃ (l:Nat) (r:Loop) (st':St),E[0]? =some (.loop l)∧w.heap[l]? =some (.loop r)∧K st'∧st'.s=st.s∧
 LSnow j r.state∧∀ (s2:LoopState) (p2:Option Code),LSok j' s2 p2→Sim tt N B E Pp st' a (w.putObj l (.loop { r with state:=s2,pending:=p2 })):=by
 unfold VC.setLoop at hc
 split at hc
 ·rename_i n ps c1 c2 s i hob
  have hob':=getO_live hob rfl
  obtain ⟨ri,hri,hor⟩:=h.wr.ob 0 _ hob' rfl
  cases ri<;>try exact hor.elim
  rename_i l
  obtain ⟨r,h1,h2,h3⟩:=hor
  have hjK:LSnow j r.state∧K ⟨st.s,setO st.o 0 (.loop n ps c1 c2 s j')⟩:=by
   split at hc
   ·exact ⟨h2.state.1,hc⟩
   ·exact ⟨h2.state,hc⟩
   ·exact hc.elim
  refine ⟨l,r,⟨st.s,setO st.o 0 (.loop n ps c1 c2 s j')⟩,hri,h1,hjK.2,rfl,hjK.1,?_⟩
  ·intro s2 p2 hst2
   generalize hr2:({ r with state:=s2,pending:=p2 }:Loop)=r2
   have hlt:l<w.heap.size:=by
    rcases Nat.lt_or_ge l w.heap.size with h'|h'
    ·exact h'
    ·simp [Array.getElem?_eq_none h'] at h1
   have hl0:=lt_of_get hob'
   have same:∀ k,k≠l→(w.putObj l (.loop r2)).heap[k]? =w.heap[k]? :=fun k hk=>World.putObj_heap_other hk
   refine SimW.sim (st:=⟨st.s,setO st.o 0 (.loop n ps c1 c2 s j')⟩) ?_ h.slots h.size h.defers
   simp only [setO_eq]
   refine h.toW.turn hob' rfl hri rfl (fun _ _=>rfl) hri (.inl (.refl _)) (by simp) ?_ (by rw [List.getElem?_set_self hl0]) (fun _=> ?_) rfl rfl rfl (by simp [World.putObj]) ?_ (fun _ _ h=>h) (fun _ _ h=>.inl h) (fun _ hb=>.inl hb) ?_
   ·intro j oj hj hoj hlv
    rw [List.getElem?_set_ne (Ne.symm hj)] at hoj
    exact ⟨oj,hoj,hlv,fun _ _ h=>h⟩
   ·refine ⟨r2,World.putObj_heap_same hlt,?_,?_⟩
    ·rw [← hr2]
     exact ⟨h2.size,h2.params,h2.assign,h2.body,hst2⟩
    ·rw [← hr2];exact h3
   ·intro b _ hne
    exact same b (fun e=>hne (by rw [e];rfl))
   ·intro ad v hv
    have hc:=h.wr.pi ad v hv
    rw [pc_same (same ad.block ?_)]
    ·exact hc
    ·intro e;simp [pc,e,h1] at hc
 ·exact hc.elim
theorem YC.enterL {G:Cfg} (htt:TtOk P G.tt) (hm:P.follows .mixedOrders=true) {n:Nat} {ps:List Nat} {c1 c2:Code} {s:Slots} {os:List Ob} {args:List PV} {K:PV→List Ob→Prop} (hN:nb n G.n=true) (hn0:nb (lenL os+1) G.n0=true) (hlen:nb (lenL args) (lenL ps)=true) (hlt:allLtL n ps=true)
 (h:∀ l:Nat,∃ LP:Code→St→(Ex→St→Prop)→Prop,(∀ c st Q,LP c st Q→PWp P G.tt G.n G.n0 (some l) c st Q)∧
   pwp Std G (FCx P G.tt) LP c1 (roundStart s ps (.loop n ps c1 c2 s .ready::os) args) fun e st=>match e with
    | .normal=>setLoop st .ready .busy fun st=>pwp Std G (FCx P G.tt) LP c2 st fun e st=>roundEnd G.n0 e st K
    |_=>False):YC P G.tt (.loop n ps c1 c2 s .ready::os) args K:=by
 intro E Pp w vals l rec hw hE hrec hv
 obtain ⟨ri,hri,hor⟩:=hw.ob 0 _ rfl rfl
 rw [hE] at hri;cases hri
 obtain ⟨rec',h1,h2,h3⟩:=hor
 rw [hrec] at h1;cases h1
 have hN:=nb_of hN
 have hn0:=nb_of hn0
 have hlen:=nb_of hlen
 rw [lenL_eq] at hn0
 rw [lenL_eq,lenL_eq] at hlen
 have hpl:ps.length=rec.params.size:=by rw [← h2.params];simp
 have hvl:=hv.length
 refine ⟨by omega,?_⟩
 obtain ⟨E1,q1,q2,q3,q4⟩:=hw.mv []
 have hlts:∀ (l:List Nat),allLtL n l=true→∀ t∈l,t<n:=by
  intro l
  induction l with
  |nil=>intro _ t ht;simp at ht
  |cons x l ih=>
   intro h t ht
   simp only [allLtL,Bool.and_eq_true] at h
   rcases List.mem_cons.1 ht with rfl|ht
   ·exact nle_of h.1
   ·exact ih h.2 t ht
 have hsa:=setArgs_ok (tt:=G.tt) (E:=E1) (Pp:=Pp) ps (mapL (renP (mvF (rowIxs (.loop n ps c1 c2 s .ready::os) 0) (lenL (.loop n ps c1 c2 s .ready::os))) 8) args) vals rec.tmps (renS (mvF (rowIxs (.loop n ps c1 c2 s .ready::os) 0) (lenL (.loop n ps c1 c2 s .ready::os))) s)
  (fun t=>by rw [renS_look];exact renP_ok q2 8 _ _ (h3 t)) (renPs_ok q2 hv) (by rw [mapL_length];omega) (fun t ht=>by rw [h2.size];exact hlts ps hlt t ht)
 have hfold:(rec.params.zip (⟨vals⟩:Array Value)).foldl (fun tmps (t,a)=>tmps.setIfInBounds t a) rec.tmps=(ps.zip vals).foldl (fun (tmps:Array Value) (x:Nat×Value)=>tmps.setIfInBounds x.1 x.2) rec.tmps:=by
  rw [← Array.foldl_toList,Array.toList_zip,h2.params]
 rw [hfold]
 obtain ⟨rfl,rfl⟩:rec.assign=c1∧rec.body=c2:=⟨h2.assign,h2.body⟩
 refine roundIn_of_wpIn trivial ?_
 have hs0:Sim G.tt G.n { w0:=w,E0:=E,P0:=Pp,own0:=own E (.loop n ps rec.assign rec.body s .ready::os) } E1 Pp (roundStart s ps (.loop n ps rec.assign rec.body s .ready::os) args) ⟨(ps.zip vals).foldl (fun (tmps:Array Value) (x:Nat×Value)=>tmps.setIfInBounds x.1 x.2) rec.tmps,[]⟩ w:=
  ⟨q3,hsa.1,by rw [hsa.2,h2.size,hN],rfl,q1,fun _ _ h=>h,Fr.refl _ _,fun ad v h=>.inl h,fun i o ri b r1 r2 r3 r4=>.inr (q4 b ⟨i,o,ri,r1,r2,r3,r4⟩)⟩
 have hb0:E.length=G.n0:=by rw [hw.len];simp;omega
 obtain ⟨LP,hL,h⟩:=h l
 have hE0:∀ {B:Base} {E':List RI} {Pp':Per} {st':St} {a':Act} {w':World},B.E0=E→Sim G.tt G.n B E' Pp' st' a' w'→E'[0]? =some (.loop l):=by
  intro B E' Pp' st' a' w' hB hs
  have:=hs.pre
  rw [hB] at this
  exact this.loop hE
 refine wpIn_mono (pwp_okL (r:=some l) htt hm hL _ _ _ h _ E1 Pp _ w hb0 hs0) ?_
 rintro e a1 w1 ⟨ex,st1,E2,Pp2,he,hs1,_,_,hq⟩
 cases e<;>cases ex<;>simp only [exOk] at he<;>try exact hq.elim
 obtain ⟨l1,r1,st1',b1,b2,b3,_,b5,b6⟩:=hs1.setLoop hq
 have:=hE0 rfl hs1
 rw [b1] at this;cases this
 refine ⟨_,run_beginRound b2 b5,?_⟩
 have hs2:=b6 .busy r1.pending rfl
 refine wpIn_mono (pwp_okL (r:=some l) htt hm hL _ _ _ b3 _ E2 Pp2 _ _ hb0 hs2.at) ?_
 rintro e a2 w2 ⟨ex,st2,E3,Pp3,he,hs3,_,_,hq3⟩
 have ending:∀ (j:LS) (jump:Option Code) (b:Bool),(match j with| .ready=>jump=none| .done c=>jump=some c| .busy=>False)→(b=jump.isNone)→setLoop st2 .busy j (fun st=>outK G.n0 (.bl b) st.o (keepL G.n0 st (.bl b)) K)→
  ∃ v w',(Instr.endRound l jump).run P w2= .ok v w'∧FCPost G.tt E Pp (.loop n ps rec.assign rec.body s .ready::os) w K (.returned v) w':=by
  intro j jump b hj hb hq
  subst hb
  obtain ⟨l2,r2,st2',d1,d2,d3,_,d5,d6⟩:=hs3.setLoop hq
  have:=hE0 rfl hs3
  rw [d1] at this;cases this
  refine ⟨_,_,run_endRound jump d2,?_⟩
  have hs4:=d6 (if jump.isNone then .ready else .done) jump (by
   cases j<;>simp only at hj
   ·subst hj;exact ⟨rfl,rfl⟩
   ·subst hj;exact ⟨rfl,rfl⟩)
  rw [← hb0,hw.len] at d3
  exact outK_ok hw (s':=st2'.s) (o':=st2'.o) hs4 (.bl _) d3
 cases e<;>cases ex<;>simp only [exOk] at he
 ·exact ending .ready none true rfl rfl hq3
 ·subst he;exact ending (.done (.exit _)) (some (.exit _)) false rfl rfl hq3
 ·exact ending (.done .ret) (some .ret) false rfl rfl hq3
theorem YC.enter {G:Cfg} (htt:TtOk P G.tt) (hm:P.follows .mixedOrders=true) (hrnd:G.rnd=true) {n:Nat} {ps:List Nat} {c1 c2:Code} {s:Slots} {os:List Ob} {args:List PV} {K:PV→List Ob→Prop} (hN:nb n G.n=true) (hn0:nb (lenL os+1) G.n0=true) (hlen:nb (lenL args) (lenL ps)=true) (hlt:allLtL n ps=true)
 (h:∀ (A:Alg) (C:CallP) (L:Code→St→(Ex→St→Prop)→Prop),Ctx P G A C L→
   pwp A G C L c1 (roundStart s ps (.loop n ps c1 c2 s .ready::os) args) fun e st=>match e with
    | .normal=>setLoop st .ready .busy fun st=>pwp A G C L c2 st fun e st=>roundEnd G.n0 e st K
    |_=>False):YC P G.tt (.loop n ps c1 c2 s .ready::os) args K:=
 YC.enterL htt hm hN hn0 hlen hlt fun l=>⟨_,fun _ _ _ h=>h,h _ _ _ ⟨rfl,rfl,⟨some l,(fun h=>by rw [hrnd] at h;cases h),rfl⟩,htt,hm⟩⟩
theorem Ctx.round {G:Cfg} {A:Alg} {C:CallP} {L:Code→St→(Ex→St→Prop)→Prop} (X:Ctx P G A C L) {objs:List Ob} {args:List PV} {K:PV→List Ob→Prop} (h:YC P G.tt objs args K):C .yld objs args K:=by
 rw [X.c];exact h
/-! ### a range over a function -/
def rangeEnd (n:Nat) (st:St) (Q:Ex→St→Prop):Prop:=match getO st.o n with
 | .loop _ _ _ _ _ j=>(match j with
  | .ready=>Q .normal ⟨st.s,setO st.o n .dead⟩
  | .done .ret=>Q .ret ⟨st.s,setO st.o n .dead⟩
  | .done (.exit id)=>Q (.exit id) ⟨st.s,setO st.o n .dead⟩
  |_=>False)
 |_=>False
def rangeK (G:Cfg) (C:CallP) (f:FuncId) (caps:List PV) (ps:Array Tmp) (c1 c2:Code) (s2:Slots) (st:St) (Q:Ex→St→Prop):Prop:=
 liveC1 C (.fn f) (.yld (lenL st.o)::caps) st.s (appL st.o [.loop G.n ps.toList c1 c2 s2 .ready]) fun _ st'=>rangeEnd (lenL st.o) st' Q
theorem SimW.dropLoop {n:Nat} {l:Nat} {ob:Ob} {r2:Loop} (h:SimW tt B E Pp objs w) (ho:objs[n]? =some ob) (hE:E[n]? =some (.loop l)) (hl:ob.live=true):SimW tt B E Pp (objs.set n .dead) (w.putObj l (.loop r2)):=by
 obtain ⟨ri,hri,hor⟩:=h.wr.ob n _ ho hl
 rw [hE] at hri;cases hri
 have hob:∃ k ps c1 c2 s j,ob= .loop k ps c1 c2 s j:=by cases ob<;>first|exact ⟨_,_,_,_,_,_,rfl⟩|exact hor.elim
 obtain ⟨k,ps,c1,c2,s,j,rfl⟩:=hob
 obtain ⟨r,h1,_⟩:=hor
 have hln:=lt_of_get ho
 have same:∀ k,k≠l→(w.putObj l (.loop r2)).heap[k]? =w.heap[k]? :=fun k hk=>World.putObj_heap_other hk
 refine h.turn (o':=.dead) ho rfl hE rfl (fun _ _=>rfl) hE (.inl (.refl _)) (by simp) ?_ (by rw [List.getElem?_set_self hln]) (fun h=>by cases h) rfl rfl rfl (by simp [World.putObj]) ?_ (fun _ _ h=>h) (fun _ _ h=>.inl h) (fun _ hb=>.inl hb) ?_
 ·intro j oj hj hoj hlv
  rw [List.getElem?_set_ne (Ne.symm hj)] at hoj
  exact ⟨oj,hoj,hlv,fun _ _ h=>h⟩
 ·intro b _ hne
  exact same b (fun e=>hne (by rw [e];rfl))
 ·intro ad v hv
  have hc:=h.wr.pi ad v hv
  rw [pc_same (same ad.block ?_)]
  ·exact hc
  ·intro e;simp [pc,e,h1] at hc
theorem SimW.compose {w2:World} {E2:List RI} {Pp2:Per} {o2:List Ob} (h:SimW tt B E Pp objs w) (k:SimW tt { w0:=w,E0:=B.E0,P0:=Pp,own0:=own E objs } E2 Pp2 o2 w2):SimW tt B E2 Pp2 o2 w2:=by
 have fr1:∀ b,own E objs b→B.w0.heap.size≤b∨B.own0 b:=fun b ⟨i,o,ri,h1,h2,h3,h4⟩=>h.fresh i o ri b h1 h2 h3 h4
 refine ⟨k.wr,k.pre,fun ad v hv=>k.per ad v (h.per ad v hv),?_,?_,?_⟩
 ·refine h.fr.trans k.fr (fun x hx ho=> ?_)
  have hx:x<B.w0.heap.size:=hx
  rcases fr1 x ho with h1|h1
  ·omega
  ·exact h1
 ·intro ad v hv
  rcases k.pnew ad v hv with h1|h1|h1
  ·exact h.pnew ad v h1
  ·exact .inr (.inl (Nat.le_trans h.fr.size h1))
  ·exact .inr (fr1 _ h1)
 ·intro i o ri b h1 h2 h3 h4
  rcases k.fresh i o ri b h1 h2 h3 h4 with h5|h5
  ·exact .inl (Nat.le_trans h.fr.size h5)
  ·exact fr1 _ h5
theorem rangeFn_ok {g:Operand} {ps:Array Tmp} {c1 c2:Code} {Q:Ex→St→Prop} {f:FuncId} {fn:Func} {code:Code} {caps:List PV} (hg:ev st.s g= .clos f caps) (hf:Has P f fn code) (hfb:nlt f bndM=true) {s2:Slots} (hs2:subS st.s s2)
 (hk:rangeK G (FCx P G.tt) f caps ps c1 c2 s2 st Q):PWp P G.tt G.n G.n0 none (.rangeFunc g ps c1 c2) st Q:=by
 intro B E Pp a w hb hs
 have hgv:=ev_ok hs.slots g
 rw [hg] at hgv
 generalize hge:a.eval g=vg at hgv
 cases hgv with
 |clos _ _ vs _ hu hcaps=>
 obtain rfl:=hu.get hfb
 have hlen:=hs.wr.len
 refine wpIn_rangeFunc (F:=fen none) fun fn0 _=> ?_
 generalize hrec:({ state:=.ready,pending:=none,fn:=fn0,tmps:=a.tmps,params:=ps,assign:=c1,body:=c2,defers:=w.heap.size }:Loop)=rec
 generalize hw1:(w.alloc (.deferred (some []))).alloc (.loop rec)=w1
 have hsz1:w1.heap.size=w.heap.size+2:=by rw [← hw1];simp
 have hb0:w1.heap[w.heap.size]? =some (.deferred (some [])):=by
  rw [← hw1,RowKit.Below.heap_alloc _ _ _ (by simp)]
  exact heap_alloc_at w _
 have hl0:w1.heap[w.heap.size+1]? =some (.loop rec):=by
  have:=heap_alloc_at (w.alloc (.deferred (some []))) (.loop rec)
  rw [hw1] at this
  simpa using this
 -- the loop is an object of ours
 have hE1g:∀ (i:Nat) x,E[i]? =some x→(E++[RI.loop (w.heap.size+1)])[i]? =some x:=mem_push
 have h1:SimW G.tt B (E++[.loop (w.heap.size+1)]) Pp (st.o++[.loop G.n ps.toList c1 c2 s2 .ready]) w1:=by
  have ha:=hs.toW.alloc (.deferred (some []))
  have:=ha.new (x:=.loop rec) (ri:=.loop (w.heap.size+1)) (o:=.loop G.n ps.toList c1 c2 s2 .ready) (by simp [RI.block?]) ?_
  ·rw [hw1] at this;exact this
  ·refine ⟨rec,?_,?_,?_⟩
   ·rw [hw1];exact hl0
   ·subst hrec;exact ⟨hs.size,rfl,rfl,rfl,rfl,rfl⟩
   ·intro t
    have:rec.tmps=a.tmps:=by subst hrec;rfl
    rw [this]
    exact pvLe_ok (subS_look hs2 t) ((hs.slots t).mono hE1g (fun _ _ h=>h))
 have hslots1:∀ t,VR G.tt (E++[.loop (w.heap.size+1)]) Pp (a.tmps.getD t undef) (look st.s t):=fun t=>(hs.slots t).mono hE1g (fun _ _ h=>h)
 have hEn:(E++[RI.loop (w.heap.size+1)])[st.o.length]? =some (.loop (w.heap.size+1)):=by rw [← hlen];simp
 have hv:VRL G.tt (E++[.loop (w.heap.size+1)]) Pp (.func (.yield (w.heap.size+1)) #[] #[]::vs) (.yld (lenL st.o)::caps):=
  .cons _ _ _ _ (.yld _ _ (by rw [lenL_eq];exact hEn)) (hcaps.mono hE1g (fun _ _ h=>h))
 -- the call
 unfold rangeK liveC1 at hk
 rw [appL_eq] at hk
 generalize hF:reach (st.o++[.loop G.n ps.toList c1 c2 s2 .ready]) 64 (catL (refs1 8) (.yld (lenL st.o)::caps)) []=F at hk
 unfold liveC2 at hk
 cases hbF:(nodupL F&&allL (fun r=>nlt r (lenL (st.o++[.loop G.n ps.toList c1 c2 s2 .ready]))) F) with
 |false=>rw [hbF] at hk;exact hk.elim
 |true=>
 rw [hbF] at hk
 simp only [Bool.and_eq_true,lenL_eq] at hbF
 have hbase:SimW G.tt { w0:=w1,E0:=B.E0,P0:=Pp,own0:=own (E++[.loop (w.heap.size+1)]) (st.o++[.loop G.n ps.toList c1 c2 s2 .ready]) } (E++[.loop (w.heap.size+1)]) Pp (st.o++[.loop G.n ps.toList c1 c2 s2 .ready]) w1:=
  ⟨h1.wr,h1.pre,fun _ _ h=>h,Fr.refl _ _,fun _ _ h=>.inl h,fun i o ri b q1 q2 q3 q4=>.inr ⟨i,o,ri,q1,q2,q3,q4⟩⟩
 have hl:=live_ok (st:=st) (a:=a) (K:=fun _ st'=>rangeEnd (lenL st.o) st' Q) hbase hslots1 hv (nodupL_eq hbF.1) (allLt hbF.2)
 have hcall:=hk _ _ w1 (.func (.yield (w.heap.size+1)) #[] #[]::vs) hl.1 hl.2.1
 rcases hcall with ⟨_,hcalls⟩|⟨v,w',hrun,_⟩
 case inr=>rw [enter_run hf.f hf.b hf.name] at hrun;cases hrun
 refine ⟨w.heap.size+1,[mkD w.heap.size],w1,{ target:=.fn (.func f) ⟨vs⟩,args:= #[.func (.yield (w.heap.size+1)) #[] #[]] },w1,f,⟨.func (.yield (w.heap.size+1)) #[] #[]::vs⟩,w1,?_,?_,fun _ _=>trivial,?_,fun h=>by simp [fen,Fence.wide] at h,?_⟩
 ·have:=run_enterLoop_outer (P:=P) (w:=w) fn0 a.tmps ps c1 c2
  rw [hrec,hw1] at this
  exact this
 ·have he:(#[Operand.const (.func (.yield (w.heap.size+1)) #[] #[])]:Array Operand).map a.eval= #[.func (.yield (w.heap.size+1)) #[] #[]]:=by simp [Act.eval]
  simp [resolve,rangeCall,hge,Deferred.ofValue,he]
 ·have:=enter_run (w:=w1) (vals:=.func (.yield (w.heap.size+1)) #[] #[]::vs) hf.f hf.b hf.name
  simpa [invoke] using this
 ·refine (callsIn_fen hcalls).mono ?_
  intro e w3 hq
  obtain ⟨v,pv,s',o',E',Pp',rfl,_,q3,q4,q5,q6,q7,q8⟩:=hl.2.2 e w3 hq
  -- the loop's record stands where it stood
  have hcomp:SimW G.tt B E' Pp' o' w3:=h1.compose q4
  have hEn':E'[st.o.length]? =some (.loop (w.heap.size+1)):=q7.loop hEn
  have hb3:w3.heap[w.heap.size]? =some (.deferred (some []))∧¬own E' o' w.heap.size:=by
   have hno:¬own (E++[.loop (w.heap.size+1)]) (st.o++[.loop G.n ps.toList c1 c2 s2 .ready]) w.heap.size:=by
    rintro ⟨i,o,ri,r1,r2,r3,r4⟩
    rcases app_get r1 with ⟨t1,t2⟩|⟨j,rfl,t2⟩
    ·rw [List.getElem?_append_left (by omega)] at r3
     have:=own_lt hs.wr ⟨i,o,ri,t2,r2,r3,r4⟩
     omega
    ·cases j with
     |zero=>
      simp only [Nat.add_zero] at r3
      rw [hEn] at r3
      cases r3
      simp only [RI.block?,Option.some.injEq] at r4
      omega
     |succ j=>simp at t2
   refine ⟨(q4.fr.block _ (by show w.heap.size<w1.heap.size;omega) hno).trans hb0,?_⟩
   rintro ⟨i,o,ri,r1,r2,r3,r4⟩
   rcases q4.fresh i o ri _ r1 r2 r3 r4 with r5|r5
   ·have r5:w1.heap.size≤w.heap.size:=r5
    omega
   ·exact hno r5
  unfold rangeEnd at q5
  rw [lenL_eq] at q5
  split at q5
  ·rename_i n' ps' c1' c2' s' j hob
   have hob':=getO_live hob rfl
   obtain ⟨ri,hri,hor⟩:=q4.wr.ob _ _ hob' rfl
   rw [hEn'] at hri;cases hri
   obtain ⟨r3,t1,t2,_⟩:=hor
   subst q8
   have hrest:∀ (jump:Option Code),r3.state≠ .busy→r3.pending=jump→∀ (e4:Exit) (ex:Ex),exOk e4 ex→Q ex ⟨st.s,setO o' st.o.length .dead⟩→
    (∀ (Q':Exit→Act→World→Prop) (a4:Act) (w4:World),Q' e4 a4 w4→match jump with|none=>Q' .normal a4 w4|some c=>c.wpIn (fen none) 0 P Q' a4 w4)→
    rangePost (fen none) 0 P (w.heap.size+1) (fun e a' w'=>∃ ex st' E' Pp',exOk e ex∧Sim G.tt G.n (B.at a'.defers) E' Pp' st' a' w'∧Mk w a.defers E' st'.o a'.defers w'∧w.heap.size≤w'.heap.size∧Q ex st') { a with defers:=[mkD w.heap.size]++a.defers } (.returned v) w3:=by
    intro jump hne hpend e4 ex he4 hQ hgo
    subst hpend
    have hend:=run_endLoop (P:=P) t1 hne
    have hdrop:=hcomp.dropLoop (r2:={ r3 with state:=.exhausted }) hob' hEn' rfl
    rw [← setO_eq] at hdrop
    have hsim:Sim G.tt G.n (B.at ([mkD w.heap.size]++a.defers)) E' Pp' ⟨st.s,setO o' st.o.length .dead⟩ { a with defers:=[mkD w.heap.size]++a.defers } (w3.putObj (w.heap.size+1) (.loop { r3 with state:=.exhausted })):=
     ⟨hdrop.wr,q3,hs.size,rfl,hdrop.pre,hdrop.per,hdrop.fr,hdrop.pnew,hdrop.fresh⟩
    have hmk:Mk w a.defers E' (setO o' st.o.length .dead) ([mkD w.heap.size]++a.defers) (w3.putObj (w.heap.size+1) (.loop { r3 with state:=.exhausted })):=by
     refine ⟨[w.heap.size],rfl,by simp,fun b hbm=> ?_⟩
     rw [List.mem_singleton] at hbm
     subst hbm
     have hz:w1.heap.size≤w3.heap.size:=q4.fr.size
     refine ⟨Nat.le_refl _,by simp [World.putObj];omega,?_,?_⟩
     ·rw [World.putObj_heap_other (by omega)];exact hb3.1
     ·rintro ⟨i,o,ri,r1,r2,r3,r4⟩
      rw [setO_eq] at r1
      by_cases hi:i=st.o.length
      ·subst hi
       rw [List.getElem?_set_self (lt_of_get hob')] at r1
       cases r1
       simp [Ob.live] at r2
      ·rw [List.getElem?_set_ne (Ne.symm hi)] at r1
       exact hb3.2 ⟨i,o,ri,r1,r2,r3,r4⟩
    have hz:w.heap.size≤(w3.putObj (w.heap.size+1) (.loop { r3 with state:=.exhausted })).heap.size:=by
     have hz:w1.heap.size≤w3.heap.size:=q4.fr.size
     simp [World.putObj];omega
    exact ⟨r3.pending,_,hend,hgo (fun e a' w'=>∃ ex st' E' Pp',exOk e ex∧Sim G.tt G.n (B.at a'.defers) E' Pp' st' a' w'∧Mk w a.defers E' st'.o a'.defers w'∧w.heap.size≤w'.heap.size∧Q ex st') _ _ ⟨ex,_,E',Pp',he4,hsim,hmk,hz,hQ⟩⟩
   have hstate:=t2.state
   split at q5
   ·exact hrest none (by rw [hstate.1];decide) hstate.2 .normal .normal trivial q5 (fun Q' a4 w4 h=>h)
   ·exact hrest (some .ret) (by rw [hstate.1];decide) hstate.2 .ret .ret trivial q5 (fun Q' a4 w4 h=>wpIn_ret h)
   ·exact hrest (some (.exit _)) (by rw [hstate.1];decide) hstate.2 (.exit _) (.exit _) rfl q5 (fun Q' a4 w4 h=>wpIn_exit h)
   ·exact q5.elim
  ·exact q5.elim
theorem Ctx.range {G:Cfg} {A:Alg} {C:CallP} {L:Code→St→(Ex→St→Prop)→Prop} (X:Ctx P G A C L) (hr:G.rnd=false) {g:Operand} {ps:Array Tmp} {c1 c2:Code} {st:St} {Q:Ex→St→Prop} {f:FuncId} {fn:Func} {code:Code} {caps:List PV} (hf:Has P f fn code) (hg:ev st.s g= .clos f caps) (s2:Slots) (hs2:subS st.s s2)
 (hk:rangeK G C f caps ps c1 c2 s2 st Q) (hfb:nlt f bndM=true:=by rfl):L (.rangeFunc g ps c1 c2) st Q:=by
 obtain ⟨rfl,rfl,⟨r,h0,rfl⟩,htt,hm⟩:=X
 obtain rfl:=h0 hr
 exact rangeFn_ok hg hf hfb hs2 hk
end
end Go.VC
end

section
namespace Go
variable {P:Program}
theorem step_builtinD {fr:Frame} {cs:List Frame} {w w':World} {b:Builtin} {ts:Array TypeId} {ty:TypeId} {k:Array Bool} {args:Array Value} {v:Value} {ds:List Deferred}
 (hm:fr.mode= .returning) (hd:fr.defers={ target:=.builtin b ts ty k,args:=args }::ds) (hk:(invoke (.builtin b ts ty k) args).run P w= .ok (.value v) w'):
 step P (lone fr cs w)= .next (lone { fr with defers:=ds } cs w'):=by
 refine step_lone_go ?_
 simp [stepG,unwind,callDeferred,hm,hd,Sem.runT_eq,hk,GStep.bare_after]
end Go
namespace Go.VC
open Go
structure Dl where
 ts:Array TypeId
 ty:TypeId
 r:Nat
 s:List UInt8
def dlD (q:Dl) (vm:Value):Deferred:={ target:=.builtin .delete q.ts q.ty #[false,false],args:= #[vm,.string ⟨q.s.toArray⟩] }
def LeavesB (P:Program) (fn:Func) (tmps:Array Value) (R:Ending→World→Prop):List Deferred→World→Prop
 |[],w=>LeavesIn (fen none) 0 P fn tmps R [] .returning w
 |d::ds,w=>(∃ r w',d=mkD r∧(Instr.takeDeferred r).run P w= .ok [] w'∧LeavesB P fn tmps R ds w')∨
  ∃ b ts ty k args v w',d={ target:=.builtin b ts ty k,args:=args }∧(invoke (.builtin b ts ty k) args).run P w= .ok (.value v) w'∧LeavesB P fn tmps R ds w'
section
variable {P:Program} {tt:TypeId→Option TI} {G:Cfg} {N:Nat} {B:Base} {E:List RI} {Pp:Per} {objs:List Ob} {w:World} {st:St} {a:Act}
theorem leavesB_steps {fn:Func} {tmps:Array Value} {R:Ending→World→Prop}:∀ (ds:List Deferred) (w:World) (fr:Frame)
 (cs:List Frame),fr.mode= .returning→fr.defers=ds→fr.tmps=tmps→P.funcs[fr.fn]? =some fn→fr.kind= .normal→LeavesB P fn tmps R ds w→
 ∃ e w' fr',R e w'∧ComesIn (Machine.fenced P (fen none)) P (lone fr cs w) (lone fr' cs w') e∧fr'.fn=fr.fn∧fr'.leaving P w' e:=by
 intro ds
 induction ds with
 |nil=>exact fun w fr cs hu hd ht hf hk h=>leaves_stepsIn [] .returning w fr cs hu hd ht hf hk trivial (room_fen _) h
 |cons d ds ih=>
  intro w fr cs hu hd ht hf hk h
  rcases h with ⟨r,w',rfl,htake,hrest⟩|⟨b,ts,ty,k,args,v,w',rfl,hinv,hrest⟩
  ·have h1:=step_collected (cs:=cs) (by rw [hu];simp) hd rfl htake
   have i1:(lone fr cs w).fenced P (fen none):=fenced_out (n:=0) trivial (room_fen _) (by rw [hu];simp) hd (fun g hg=>by simp [mkD,Target.leads] at hg)
   obtain ⟨e',w'',fr',hR',hs',hfn',hl'⟩:=ih w' { fr with defers:=[]++ds } cs hu rfl ht hf hk hrest
   exact ⟨e',w'',fr',hR',ComesIn.of_steps (.one i1 h1) hs',hfn',hl'⟩
  ·have h1:=step_builtinD (cs:=cs) hu hd hinv
   have i1:(lone fr cs w).fenced P (fen none):=fenced_out (n:=0) trivial (room_fen _) (by rw [hu];simp) hd (fun g hg=>trivial)
   obtain ⟨e',w'',fr',hR',hs',hfn',hl'⟩:=ih w' { fr with defers:=ds } cs hu rfl ht hf hk hrest
   exact ⟨e',w'',fr',hR',ComesIn.of_steps (.one i1 h1) hs',hfn',hl'⟩
def bodyPostB (P:Program) (fn:Func) (R:Ending→World→Prop):Exit→Act→World→Prop
 | .normal,a,w| .ret,a,w=>LeavesB P fn a.tmps R a.defers w
 |_,_,_=>False
theorem callsIn_of_wp_B {f:FuncId} {fn:Func} {c:Code} {args:Array Value} {w:World} {R:Ending→World→Prop}
 (hf:P.funcs[f]? =some fn) (hb:fn.body=some c)
 (h:c.wpIn (fen none) 0 P (bodyPostB P fn R) { tmps:=args++Array.replicate (fn.ntmps-args.size) undef,defers:=[] } w):CallsIn (fen none) 0 P f args w R:=by
 refine ⟨trivial,fun cs hr=> ?_⟩
 let b:Frame:={ (default:Frame) with fn:=f,kind:=.normal,roundOf:=none }
 have henter:Frame.enter P f args .normal=
  b.atR { tmps:=args++Array.replicate (fn.ntmps-args.size) undef,defers:=[] } [.code c]:=by
  simp [Frame.enter,Frame.atR,hf,hb,b]
 obtain ⟨e,a',w',hq,harr⟩:=h b [] cs rfl trivial hr
 rw [← henter] at harr
 cases e with
 |normal=>
  obtain ⟨e',w'',fr',hR,hs,hfn,hl⟩:=leavesB_steps a'.defers w' { b.atR a' [] with mode:=.returning } cs rfl rfl rfl hf rfl hq
  exact ⟨e',w'',fr',hR,ComesIn.of_steps (StepsIn.trans harr (.one (fenced_calm (fr:=b.atR a' []) trivial hr rfl) (stepR_end rfl))) hs,hfn,hl⟩
 |ret=>
  obtain ⟨todo,hs₀⟩:=harr.1 rfl
  obtain ⟨e',w'',fr',hR,hs,hfn,hl⟩:=leavesB_steps a'.defers w' { b.atR a' todo with mode:=.returning } cs rfl rfl rfl hf rfl hq
  exact ⟨e',w'',fr',hR,ComesIn.of_steps hs₀ hs,hfn,hl⟩
 |panic chain=>exact hq.elim
 |exit id=>exact hq.elim
 |goto l=>exact hq.elim
 |outgrown=>exact hq.elim
section
variable {P:Program} {F:Fence} {n:Nat}
theorem wpIn_swap {o:Oper} {a:Act} {w:World} {K K':Act→World→Prop} {Q Q':Exit→Act→World→Prop} (hK:∀ a w,K a w→K' a w) (hQ:∀ e a w,e≠ .normal→¬Q e a w) (h:o.wpIn F n P a w K Q):o.wpIn F n P a w K' Q':=by
 have hout:¬LetsOut Q:=fun ⟨a,w,h⟩=>hQ _ a w (by simp) h
 refine ⟨h.1,?_⟩
 have h:=h.2
 generalize (o.semAt F.round a.eval).run P w=r at h ⊢
 cases r with
 |ok x w'=>
  cases x with
  |value v=>exact hK _ _ h
  |skip=>exact hK _ _ h
  |defer d=>exact hK _ _ h
  |enter f args=>
   refine ⟨h.1,h.2.mono ?_⟩
   intro e w'' he
   cases e with
   |returned v=>exact hK _ _ he
   |panicked c=>exact absurd he (hQ _ _ _ (by simp))
   |outgrown=>exact absurd he hout
  |row row args=>exact ⟨h.1,h.2.mono fun v w'' he=>hK _ _ he⟩
  |round l f tmps assign body=>
   refine ⟨h.1,h.2.mono ?_⟩
   intro e w'' he
   cases e with
   |returned v=>exact hK _ _ he
   |panicked c=>exact absurd he (hQ _ _ _ (by simp))
   |outgrown=>exact absurd he hout
  |_=>exact h.elim
 |halt s w'=>
  cases s with
  |panic v=>exact absurd h (hQ _ _ _ (by simp))
  |_=>exact h.elim
theorem wpAny_done {md:Region.Mode} {ops:Array Oper} {Q:Exit→Act→World→Prop} {listed:Array Bool} {a:Act} {w:World} (hr:Region.ready md ops listed=[]) (h:Q .normal a w):∀ k,wpAnyIn F n P md ops Q k listed a w
 |0=>⟨hr,h⟩
 |k+1=>⟨fun _=>h,fun i hi=>by rw [hr] at hi;cases hi⟩
structure LastOk (ops pre:Array Oper) (d:Oper):Prop where
 eq:ops=pre.push d
 back:∀ (i:Nat) o,ops[i]? =some o→(∀ e∈o.after,Region.binds .any e=true→e.on<i)∧∀ j want,o.guard=some (j,want)→j<i
 succ:∀ k,k<pre.size→∃ j o,k<j∧ops[j]? =some o∧∃ e∈o.after,Region.binds .any e=true∧e.on=k
variable {ops pre:Array Oper} {d:Oper}
theorem LastOk.get (h:LastOk ops pre d) {i:Nat} (hi:i<pre.size):ops[i]? =pre[i]? :=by rw [h.eq,Array.getElem?_push,if_neg (by omega)]
theorem LastOk.last (h:LastOk ops pre d):ops[pre.size]? =some d:=by rw [h.eq];simp
theorem LastOk.size (h:LastOk ops pre d):ops.size=pre.size+1:=by rw [h.eq];simp
def Clsd (ops:Array Oper) (listed:Array Bool):Prop:=∀ j o,ops[j]? =some o→listed.getD j false=true→∀ e∈o.after,Region.binds .any e=true→listed.getD e.on false=true
theorem LastOk.all (h:LastOk ops pre d) {listed:Array Bool} (hc:Clsd ops listed) (hd:∀ e∈d.after,Region.binds .any e=true→listed.getD e.on false=true):∀ k,k<pre.size→listed.getD k false=true:=by
 have key:∀ m k,pre.size-k≤m→k<pre.size→listed.getD k false=true:=by
  intro m
  induction m with
  |zero=>intro k h1 h2;omega
  |succ m ih=>
   intro k h1 h2
   obtain ⟨j,o,hkj,ho,e,he,hb,hek⟩:=h.succ k h2
   have hj:j<ops.size:=(Array.getElem?_eq_some_iff.1 ho).1
   rw [h.size] at hj
   rw [← hek]
   by_cases hjm:j=pre.size
   ·subst hjm
    rw [h.last] at ho;cases ho
    exact hd e he hb
   ·exact hc j o ho (ih j (by omega) (by omega)) e he hb
 exact fun k hk=>key _ k (Nat.le_refl _) hk
theorem LastOk.yld (h:LastOk ops pre d) {o:Oper} {i:Nat} (hi:i<pre.size) (ho:ops[i]? =some o) (tmps:Array Value):Region.wanted o (yielded ops tmps)=Region.wanted o (yielded pre tmps):=by
 unfold Region.wanted
 cases hg:o.guard with
 |none=>rfl
 |some g=>
  obtain ⟨j,want⟩:=g
  have:=(h.back i o ho).2 j want hg
  simp only [yielded,h.get (show j<pre.size by omega)]
theorem getD_pop {listed:Array Bool} {m j:Nat} {x:Bool} (hs:listed.size=m+1) (hj:j<m):listed.pop.getD j x=listed.getD j x:=by
 have h1:j<listed.size:=by omega
 rw [Array.getD_eq_getD_getElem?,Array.getD_eq_getD_getElem?,Array.getElem?_pop,hs,if_pos (by omega)]
theorem any_push (h:LastOk ops pre d) {Q Q1:Exit→Act→World→Prop} (hQ1:∀ e a w,e≠ .normal→¬Q1 e a w) (hQ:∀ a w,Q1 .normal a w→wpOpIn F n P ops Q pre.size (fun a w=>Q .normal a w) a w):
 ∀ k listed a w,listed.size=pre.size+1→listed.getD pre.size true=false→Clsd ops listed→wpAnyIn F n P .any pre Q1 k listed.pop a w→wpAnyIn F n P .any ops Q (k+1) listed a w:=by
 intro k
 have hfull:∀ (listed:Array Bool),listed.size=pre.size+1→Clsd ops listed→(∀ k,k<pre.size→listed.getD k false=true)→Region.ready .any pre listed.pop=[]:=by
  intro listed hs hc hall
  apply List.eq_nil_iff_forall_not_mem.2
  intro j hj
  obtain ⟨h1,o,ho,_⟩:=mem_ready.1 hj
  have hjl:j<pre.size:=(Array.getElem?_eq_some_iff.1 ho).1
  rw [getD_pop hs hjl] at h1
  have:=hall j hjl
  rw [Array.getD_eq_getD_getElem?] at h1 this
  rw [Array.getElem?_eq_getElem (by omega)] at h1 this
  simp at h1 this;rw [this] at h1;cases h1
 have hmem:∀ (listed:Array Bool),listed.size=pre.size+1→∀ i,i<pre.size→(i∈Region.ready .any ops listed↔i∈Region.ready .any pre listed.pop):=by
  intro listed hs i hi
  rw [mem_ready,mem_ready,h.get hi,getD_pop hs hi]
  constructor
  ·rintro ⟨h1,o,ho,h2⟩
   refine ⟨h1,o,ho,fun e he hb=> ?_⟩
   have:=(h.back i o (by rw [h.get hi];exact ho)).1 e he hb
   rw [getD_pop hs (by omega)];exact h2 e he hb
  ·rintro ⟨h1,o,ho,h2⟩
   refine ⟨h1,o,ho,fun e he hb=> ?_⟩
   have:=(h.back i o (by rw [h.get hi];exact ho)).1 e he hb
   have h3:=h2 e he hb
   rwa [getD_pop hs (by omega)] at h3
 -- all of them are done where none of them is ready
 have hdone:∀ (listed:Array Bool),listed.size=pre.size+1→Region.ready .any pre listed.pop=[]→∀ k,k<pre.size→listed.getD k false=true:=by
  intro listed hs hr k
  induction k using Nat.strongRecOn with
  |_ k ih=>
   intro hk
   rcases Bool.eq_false_or_eq_true (listed.getD k false) with h1|h1
   ·exact h1
   exfalso
   have hg:listed.pop.getD k true=false:=by
    rw [getD_pop hs hk]
    rw [Array.getD_eq_getD_getElem?,Array.getElem?_eq_getElem (by omega)] at h1 ⊢
    simpa using h1
   have hin:k∈Region.ready .any pre listed.pop:=by
    refine mem_ready.2 ⟨hg,pre[k],Array.getElem?_eq_getElem hk,fun e he hb=> ?_⟩
    have hlt:=(h.back k pre[k] (by rw [h.get hk];exact Array.getElem?_eq_getElem hk)).1 e he hb
    rw [getD_pop hs (by omega)]
    exact ih e.on hlt (by omega)
   rw [hr] at hin;cases hin
 have hlast:∀ (listed:Array Bool),listed.size=pre.size+1→listed.getD pre.size true=false→Region.ready .any pre listed.pop=[]→pre.size∈Region.ready .any ops listed:=by
  intro listed hs hu hr
  refine mem_ready.2 ⟨hu,d,h.last,fun e he hb=> ?_⟩
  exact hdone listed hs hr _ ((h.back _ _ h.last).1 e he hb)
 -- the last one
 have hat:∀ (k:Nat) (listed:Array Bool) (a:Act) (w:World),listed.size=pre.size+1→Clsd ops listed→pre.size∈Region.ready .any ops listed→Q1 .normal a w→wpOpIn F n P ops Q pre.size (wpAnyIn F n P .any ops Q k (listed.setIfInBounds pre.size true)) a w:=by
  intro k listed a w hs hc hm hq
  refine wpOpIn_mono (fun a' w' h'=>wpAny_done ?_ h' k) (hQ a w hq)
  apply List.eq_nil_iff_forall_not_mem.2
  intro j hj
  obtain ⟨h1,o,ho,_⟩:=mem_ready.1 hj
  have hjl:j<pre.size+1:=by rw [← h.size];exact (Array.getElem?_eq_some_iff.1 ho).1
  obtain ⟨_,o2,ho2,hall2⟩:=mem_ready.1 hm
  rw [h.last] at ho2;cases ho2
  by_cases hjm:j=pre.size
  ·subst hjm
   rw [Array.getD_eq_getD_getElem?,Array.getElem?_setIfInBounds_self_of_lt (by omega)] at h1
   cases h1
  ·have:=h.all hc hall2 j (by omega)
   rw [Array.getD_eq_getD_getElem?,Array.getElem?_setIfInBounds_ne (Ne.symm hjm)] at h1
   rw [Array.getD_eq_getD_getElem?] at this
   rw [Array.getElem?_eq_getElem (by omega)] at h1 this
   simp at h1 this;rw [this] at h1;cases h1
 have hlt:∀ (listed:Array Bool) i,i∈Region.ready .any ops listed→i≠pre.size→i<pre.size:=by
  intro listed i hi hne
  obtain ⟨_,o,ho,_⟩:=mem_ready.1 hi
  have:=(Array.getElem?_eq_some_iff.1 ho).1
  rw [h.size] at this;omega
 induction k with
 |zero=>
  intro listed a w hs hu hc ⟨hr,hq⟩
  refine ⟨fun h0=> ?_,fun i hi=> ?_⟩
  ·have:=hlast listed hs hu hr;rw [h0] at this;cases this
  ·by_cases him:i=pre.size
   ·subst him;exact hat 0 listed a w hs hc hi hq
   ·have:=(hmem listed hs i (hlt listed i hi him)).1 hi
    rw [hr] at this;cases this
 |succ k ih=>
  intro listed a w hs hu hc ⟨hq0,hall⟩
  refine ⟨fun h0=> ?_,fun i hi=> ?_⟩
  ·have hr:Region.ready .any pre listed.pop=[]:=by
    apply List.eq_nil_iff_forall_not_mem.2
    intro j hj
    obtain ⟨_,o,ho,_⟩:=mem_ready.1 hj
    have:=(hmem listed hs j (Array.getElem?_eq_some_iff.1 ho).1).2 hj
    rw [h0] at this;cases this
   have:=hlast listed hs hu hr;rw [h0] at this;cases this
  ·by_cases him:i=pre.size
   ·subst him
    obtain ⟨_,o2,ho2,hall2⟩:=mem_ready.1 hi
    rw [h.last] at ho2;cases ho2
    exact hat _ listed a w hs hc hi (hq0 (hfull listed hs hc (h.all hc hall2)))
   ·have hil:=hlt listed i hi him
    have h1:=hall i ((hmem listed hs i hil).1 hi)
    have hpop:(listed.setIfInBounds i true).pop=listed.pop.setIfInBounds i true:=by
     apply Array.ext_getElem?
     intro j
     rw [Array.getElem?_pop,Array.getElem?_setIfInBounds,Array.getElem?_setIfInBounds,Array.getElem?_pop]
     simp only [Array.size_setIfInBounds,Array.size_pop,hs]
     by_cases hij:i=j
     ·subst hij
      have:i<listed.size:=by omega
      have:i<listed.size-1:=by omega
      simp_all
     ·simp [hij]
    have hnext:∀ a w,wpAnyIn F n P .any pre Q1 k (listed.pop.setIfInBounds i true) a w→wpAnyIn F n P .any ops Q (k+1) (listed.setIfInBounds i true) a w:=by
     intro a w h2
     refine ih _ a w (by simpa using hs) ?_ ?_ (by rw [hpop];exact h2)
     ·rw [Array.getD_eq_getD_getElem?,Array.getElem?_setIfInBounds_ne (by omega),←Array.getD_eq_getD_getElem?];exact hu
     ·intro j o ho hj e he hb
      by_cases hji:j=i
      ·subst hji
       obtain ⟨_,o2,ho2,h3⟩:=mem_ready.1 hi
       rw [ho] at ho2;cases ho2
       have:=h3 e he hb
       by_cases hei:e.on=j
       ·rw [hei,Array.getD_eq_getD_getElem?,Array.getElem?_setIfInBounds_self_of_lt (by omega)];rfl
       ·rw [Array.getD_eq_getD_getElem?,Array.getElem?_setIfInBounds_ne (Ne.symm hei),←Array.getD_eq_getD_getElem?];exact this
      ·rw [Array.getD_eq_getD_getElem?,Array.getElem?_setIfInBounds_ne (Ne.symm hji),←Array.getD_eq_getD_getElem?] at hj
       have:=hc j o ho hj e he hb
       by_cases hei:e.on=i
       ·rw [hei,Array.getD_eq_getD_getElem?,Array.getElem?_setIfInBounds_self_of_lt (by omega)];rfl
       ·rw [Array.getD_eq_getD_getElem?,Array.getElem?_setIfInBounds_ne (Ne.symm hei),←Array.getD_eq_getD_getElem?];exact this
    unfold wpOpIn at h1 ⊢
    have ho:ops[i]? =some pre[i]:=by rw [h.get hil];exact Array.getElem?_eq_getElem hil
    rw [Array.getElem?_eq_getElem hil] at h1
    rw [ho]
    simp only at h1 ⊢
    rw [h.yld hil ho]
    split at h1
    ·rename_i hw;rw [if_pos hw];exact wpIn_swap hnext hQ1 h1
    ·rename_i hw;rw [if_neg hw];exact ⟨h1.1,hnext _ _ h1.2⟩
end
def backOk:Nat→List Oper→Bool
 |_,[]=>true
 |i,o::l=>allL (fun e=>bif Region.binds .any e then nlt e.on i else true) o.after.toList&&(match o.guard with|none=>true|some (j,_)=>nlt j i)&&backOk (i+1) l
def succOk:Nat→List Oper→Bool
 |_,[]=>true
 |_,[_]=>true
 |i,_::y::l=>anyL (fun oj=>anyL (fun e=>Region.binds .any e&&nb e.on i) oj.after.toList) (y::l)&&succOk (i+1) (y::l)
def splitL:List Oper→Option (List Oper×Oper)
 |[]=>none
 |[x]=>some ([],x)
 |x::y::l=>match splitL (y::l) with|some (p,d)=>some (x::p,d)|none=>none
theorem splitL_eq:∀ {l p:List Oper} {d:Oper},splitL l=some (p,d)→l=p++[d]
 |[],_,_,h=>by cases h
 |[x],_,_,h=>by simp [splitL] at h;obtain ⟨rfl,rfl⟩:=h;rfl
 |x::y::l,p,d,h=>by
  rw [splitL] at h
  split at h
  ·rename_i p' d' e
   simp at h;obtain ⟨rfl,rfl⟩:=h
   rw [splitL_eq e];rfl
  ·cases h
theorem backOk_get:∀ {l:List Oper} {i:Nat},backOk i l=true→∀ k o,l[k]? =some o→(∀ e∈o.after,Region.binds .any e=true→e.on<i+k)∧∀ j want,o.guard=some (j,want)→j<i+k
 |[],_,_,k,o,ho=>by simp at ho
 |x::l,i,h,k,o,ho=>by
  simp only [backOk,Bool.and_eq_true] at h
  obtain ⟨⟨h1,h2⟩,h3⟩:=h
  cases k with
  |zero=>
   simp at ho;subst ho
   refine ⟨fun e he hb=> ?_,fun j want hg=> ?_⟩
   ·rw [allL_eq] at h1
    have:=List.all_eq_true.1 h1 e (by simpa using he)
    rw [hb] at this
    exact nle_of this
   ·rw [hg] at h2;exact nle_of h2
  |succ k=>
   have:=backOk_get h3 k o (by simpa using ho)
   rw [show i+1+k=i+(k+1) by omega] at this
   exact this
theorem succOk_get:∀ {l:List Oper} {i:Nat},succOk i l=true→∀ k,k+1<l.length→∃ j o,k<j∧l[j]? =some o∧∃ e∈o.after,Region.binds .any e=true∧e.on=i+k
 |[],_,_,k,hk=>by simp at hk
 |[_],_,_,k,hk=>by simp at hk
 |x::y::l,i,h,k,hk=>by
  simp only [succOk,Bool.and_eq_true] at h
  cases k with
  |zero=>
   have h0:=h.1
   rw [anyL_eq] at h0
   obtain ⟨o,ho,h1⟩:=List.any_eq_true.1 h0
   rw [anyL_eq] at h1
   obtain ⟨e,he,h2⟩:=List.any_eq_true.1 h1
   rw [Bool.and_eq_true] at h2
   obtain ⟨j,hj⟩:=List.getElem?_of_mem ho
   exact ⟨j+1,o,by omega,by simpa using hj,e,by simpa using he,h2.1,nb_of h2.2⟩
  |succ k=>
   obtain ⟨j,o,h1,h2,e,he,h3,h4⟩:=succOk_get h.2 k (by simpa using hk)
   exact ⟨j+1,o,by omega,by simpa using h2,e,he,h3,by omega⟩
theorem LastOk.of {ops:Array Oper} {p:List Oper} {d:Oper} (hs:splitL ops.toList=some (p,d)) (hb:backOk 0 ops.toList=true) (hc:succOk 0 ops.toList=true):LastOk ops ⟨p⟩ d:=by
 have he:=splitL_eq hs
 refine ⟨?_,fun i o ho=> ?_,fun k hk=> ?_⟩
 ·apply Array.ext';simpa using he
 ·have:=backOk_get hb i o (by simpa using ho)
  simpa using this
 ·obtain ⟨j,o,h1,h2,e,h3,h4,h5⟩:=succOk_get hc k (by rw [he];simpa using hk)
  exact ⟨j,o,h1,by simpa using h2,e,h3,h4,by simpa using h5⟩
def hasD:Code→Bool
 | .region _ ops _=>anyL (fun o=>match o.op with| .defer _=>true|_=>false) ops.toList
 | .seq x y=>match hasD x with|true=>true|false=>hasD y
 | .cond _ x y=>match hasD x with|true=>true|false=>hasD y
 | .block _ c=>hasD c
 |_=>false
section
variable (A:Alg) (G:Cfg) (C:CallP)
def runD (all:List Oper):List Oper→St→(Option Dl→St→Prop)→Prop
 |[],st,Q=>Q none st
 |o::os,st,Q=>match o.op with
  | .defer c=>(match o.guard,o.dst,c.callee,c.args.toList with
   |none,none,.builtin .delete,[.tmp m,.tmp k]=>(match look st.s m,look st.s k with
    | .mp r,.str s=>bif nlt r G.n0 then runOps A G C all os st (Q (some ⟨c.argTypes,o.type,r,s⟩)) else False
    |_,_=>False)
   |_,_,_,_=>False)
  |_=>guarded G all o st (fun st K=>stepC A G C o st K) fun st'=>runD all os st' Q
variable (LP:Code→St→(Ex→St→Prop)→Prop)
def dwp:Code→St→(Option Dl→Ex→St→Prop)→Prop
 | .region id ops d,st,Q=>(match hasD (.region id ops d),d with
  |true,false=>runD A G C ops.toList ops.toList st fun o s=>Q o .normal s
  |true,true=>(match splitL ops.toList with
   |some (p,o)=>bif backOk 0 ops.toList&&succOk 0 ops.toList then regP A G C id ⟨p⟩ true st (fun s=>runD A G C ops.toList [o] s fun x s=>Q x .normal s) else False
   |none=>False)
  |false,_=>pwp A G C LP (.region id ops d) st (Q none))
 | .seq x y,st,Q=>match hasD x with
  |false=>pwp A G C LP x st fun e s=>match e with| .normal=>dwp y s Q| .exit i=>Q none (.exit i) s| .ret=>Q none .ret s
  |true=>dwp x st fun o e s=>match e with| .normal=>pwp A G C LP y s (Q o)| .exit i=>Q o (.exit i) s| .ret=>Q o .ret s
 | .cond c x y,st,Q=>match ev st.s c with
  | .bl true=>dwp x st Q
  | .bl false=>dwp y st Q
  | .bool t=>(t=true→dwp x (setT c true st) Q)∧(t=false→dwp y (setT c false st) Q)
  |_=>False
 | .block id c,st,Q=>dwp c st fun o e s=>match e with| .exit j=>(match nb j id with|true=>Q o .normal s|false=>Q o (.exit j) s)| .normal=>Q o .normal s| .ret=>Q o .ret s
 |c,st,Q=>pwp A G C LP c st (Q none)
end
def MkD (tt:TypeId→Option TI) (E0:List RI) (Pp:Per) (w:World) (d:List Deferred) (E':List RI) (objs':List Ob) (d':List Deferred) (w':World):Option Dl→Prop
 |none=>Mk w d E' objs' d' w'
 |some q=>∃ (bs1 bs2:List Nat) (vm:Value),d'=bs2.map mkD++dlD q vm::(bs1.map mkD++d)∧Mk w d E' objs' (bs2.map mkD++(bs1.map mkD++d)) w'∧VR tt E0 Pp vm (.mp q.r)
def DWp (P:Program) (tt:TypeId→Option TI) (N n0:Nat) (c:Code) (st:St) (Q:Option Dl→Ex→St→Prop):Prop:=
 ∀ B E Pp a w,B.E0.length=n0→Sim tt N B E Pp st a w→c.wpIn (fen none) 0 P (fun e a' w'=>∃ ex st' E' Pp' x,exOk e ex∧Sim tt N (B.at a'.defers) E' Pp' st' a' w'∧MkD tt B.E0 Pp' w a.defers E' st'.o a'.defers w' x∧w.heap.size≤w'.heap.size∧Q x ex st') a w
section
variable {P:Program} {G:Cfg} {B:Base} {E:List RI} {Pp:Per} {w:World} {st:St} {a:Act}
theorem VR.mp_base {tt:TypeId→Option TI} {E0 E:List RI} {Pp:Per} {v:Value} {r:Nat} (h:Eok E0 E) (hr:r<E0.length) (hv:VR tt E Pp v (.mp r)):VR tt E0 Pp v (.mp r):=by
 cases hv with
 |mp _ b bs cl hE=>
  have h0:E0[r]? =some E0[r]:=List.getElem?_eq_getElem hr
  rcases h r _ h0 with h1|⟨b',n,c,n',c',h1,h2⟩
  ·rw [hE] at h1;exact .mp _ _ _ _ (by rw [h0,←Option.some.inj h1])
  ·rw [hE] at h2;cases h2;exact .mp _ _ _ _ (by rw [h0,h1])
abbrev DfQ (tt:TypeId→Option TI) (N:Nat) (B:Base) (Q:Option Dl→St→Prop):Exit→Act→World→Prop:=fun e a' w'=>
 ∃ x st' E' Pp',e= .normal∧Sim tt N (B.at a'.defers) E' Pp' st' a' w'∧(match x with|none=>a'.defers=B.d0|some q=>∃ vm,a'.defers=dlD q vm::B.d0∧VR tt B.E0 Pp' vm (.mp q.r))∧Q x st'
theorem runD_ok (htt:TtOk P G.tt) (hB:B.E0.length=G.n0) {all:Array Oper} {Q:Option Dl→St→Prop}:
 ∀ (l:List Oper) (k:Nat),all.toList.drop k=l→∀ (st:St) (E:List RI) (Pp:Per) (a:Act) (w:World),Sim G.tt G.n B E Pp st a w→runD std G (FCx P G.tt) all.toList l st Q→
  wpOpsIn (fen none) 0 P all (DfQ G.tt G.n B Q) (List.range' k l.length) a w:=by
 intro l
 induction l with
 |nil=>intro k _ st E Pp a w h hr;exact ⟨none,st,E,Pp,rfl,h.at,h.defers,hr⟩
 |cons o os ih=>
  intro k hk st E Pp a w h hr
  have hlt:k<all.toList.length:=by
   rcases Nat.lt_or_ge k all.toList.length with h'|h'
   ·exact h'
   ·rw [List.drop_eq_nil_of_le h'] at hk;simp at hk
  have hok:all[k]? =some o:=by
   rw [List.drop_eq_getElem_cons hlt] at hk
   simp only [List.cons.injEq] at hk
   rw [← hk.1]
   simp
  have hnext:all.toList.drop (k+1)=os:=by
   rw [List.drop_eq_getElem_cons hlt] at hk
   simp only [List.cons.injEq] at hk
   exact hk.2
  simp only [List.length_cons,List.range'_succ,wpOpsIn_cons]
  unfold runD at hr
  split at hr
  ·rename_i c hop
   split at hr
   ·rename_i m kk hgd hds hcal hargs
    split at hr
    ·rename_i r s hm hs
     cases hn:nlt r G.n0 with
     |false=>rw [hn] at hr;exact hr.elim
     |true=>
      rw [hn] at hr
      have hn:=nle_of hn
      have h1:=h.slots m
      have h2:=h.slots kk
      rw [hm] at h1
      rw [hs] at h2
      generalize hgm:a.tmps.getD m undef=vm at h1
      generalize hgk:a.tmps.getD kk undef=vk at h2
      cases h2 with
      |str b=>
      have hvm:=VR.mp_base h.pre (by omega) h1
      have hrun:(execOp a.eval o).run P w= .ok (.defer (dlD ⟨c.argTypes,o.type,r,b.data.toList⟩ vm)) w:=by
       have ha:c.args= #[.tmp m,.tmp kk]:=by apply Array.ext';simpa using hargs
       simp [execOp,hop,resolve,hcal,ha,dlD,Act.eval,hgm,hgk]
      unfold wpOpIn
      simp only [hok]
      rw [if_pos (by simp [Region.wanted,hgd])]
      refine ⟨fun f _=>trivial,?_⟩
      rw [show (fen none).round=none from rfl,Oper.semAt_none,hrun,Oper.uponIn_defer,hds]
      have hs1:Sim G.tt G.n (B.at (dlD ⟨c.argTypes,o.type,r,b.data.toList⟩ vm::B.d0)) E Pp st { a with defers:=dlD ⟨c.argTypes,o.type,r,b.data.toList⟩ vm::a.defers } w:=⟨h.wr,h.slots,h.size,by show _::a.defers=_::B.d0;rw [h.defers],h.pre,h.per,h.fr,h.pnew,h.fresh⟩
      have:=runOps_ok (r:=none) (B:=B.at (dlD ⟨c.argTypes,o.type,r,b.data.toList⟩ vm::B.d0)) htt hB (all:=all) (Q:=Q (some ⟨c.argTypes,o.type,r,b.data.toList⟩)) (Q':=fun e a' w'=>∃ x st' E' Pp',e= .normal∧Sim G.tt G.n (B.at a'.defers) E' Pp' st' a' w'∧(match x with|none=>a'.defers=B.d0|some q=>∃ vm,a'.defers=dlD q vm::B.d0∧VR G.tt B.E0 Pp' vm (.mp q.r))∧Q x st')
       (fun E Pp st a w hs hq=>⟨some _,st,E,Pp,rfl,hs.at,⟨vm,hs.defers,(VR.mono_all (Eok.refl _) (fun _ _ h=>h)).1 (by cases hvm with|mp _ b bs cl hE=>exact .mp _ _ _ _ hE)⟩,hq⟩) os (k+1) hnext st E Pp _ w hs1 hr
      exact this
    ·exact hr.elim
   ·exact hr.elim
  ·refine guarded_wp hB hok ?_ ?_ h hr
   ·intro st h _ hc _
    refine Oper.wpIn_mono ?_ (stepC_ok htt hB h.toW h.slots hc)
    rintro a' w' ⟨st',E',Pp',v,pv,rfl,hv,hs,hw,hK,_,_⟩
    obtain ⟨st'',h1,h2,_⟩:=put_sim h.size h.defers hv hs hw hK
    exact ih (k+1) hnext st'' E' Pp' _ w' h1 h2
   ·intro st'' h1 h2 _ _
    exact ih (k+1) hnext st'' E Pp _ w h1 h2
end
theorem DWp.of_pwp {tt:TypeId→Option TI} {N n0:Nat} {c:Code} {Q:Option Dl→Ex→St→Prop} (h:PWp P tt N n0 none c st (Q none)):DWp P tt N n0 c st Q:=by
 intro B E Pp a w hb hs
 refine wpIn_mono (h B E Pp a w hb hs) ?_
 rintro e a' w' ⟨ex,st',E',Pp',he,hs',hm',hsz,hq⟩
 exact ⟨ex,st',E',Pp',none,he,hs',hm',hsz,hq⟩
theorem VR.mp_any {tt:TypeId→Option TI} {E:List RI} {Pp Pp':Per} {v:Value} {r:Nat} (hv:VR tt E Pp v (.mp r)):VR tt E Pp' v (.mp r):=by
 cases hv with|mp _ b bs cl hE=>exact .mp _ _ _ _ hE
theorem Sim.dfr {tt:TypeId→Option TI} {N:Nat} {d:List Deferred} (h:Sim tt N (B.at a.defers) E Pp st a w):Sim tt N (B.at d) E Pp st { a with defers:=d } w:=
 ⟨h.wr,h.slots,h.size,rfl,h.pre,h.per,h.fr,h.pnew,h.fresh⟩
theorem MkD.trans {tt:TypeId→Option TI} {N:Nat} {E2:List RI} {Pp2:Per} {st2:St} {a2:Act} {w0 w2:World} {d0 d:List Deferred} {x:Option Dl} (hsz:w0.heap.size≤w.heap.size) (m:Mk w0 d0 E st.o d w)
 (k:Sim tt N ((B.here E Pp st.o d w).at a2.defers) E2 Pp2 st2 a2 w2) (m2:MkD tt B.E0 Pp2 w d E2 st2.o a2.defers w2 x):MkD tt B.E0 Pp2 w0 d0 E2 st2.o a2.defers w2 x:=by
 cases x with
 |none=>exact Mk.trans hsz m k m2
 |some q=>
  obtain ⟨bs1,bs2,vm,h1,h2,h3⟩:=m2
  have m':=m
  obtain ⟨bs,hd,_,_⟩:=m'
  refine ⟨bs1++bs,bs2,vm,by rw [h1,hd];simp,?_,h3⟩
  have:=Mk.trans (B:=B) (a2:={ a2 with defers:=bs2.map mkD++(bs1.map mkD++d) }) hsz m (d2:=bs2.map mkD++(bs1.map mkD++d)) (Sim.dfr (B:=B.here E Pp st.o d w) k) h2
  rw [hd] at this
  simpa using this
theorem MkD.after {tt:TypeId→Option TI} {N:Nat} {E2:List RI} {Pp2:Per} {st2:St} {a2:Act} {w0 w2:World} {d0 d:List Deferred} {x:Option Dl} (hsz:w0.heap.size≤w.heap.size) (m:MkD tt B.E0 Pp w0 d0 E st.o d w x)
 (k:Sim tt N ((B.here E Pp st.o d w).at a2.defers) E2 Pp2 st2 a2 w2) (m2:Mk w d E2 st2.o a2.defers w2):MkD tt B.E0 Pp2 w0 d0 E2 st2.o a2.defers w2 x:=by
 cases x with
 |none=>exact Mk.trans hsz m k m2
 |some q=>
  obtain ⟨bs1,bs2,vm,h1,h2,h3⟩:=m
  obtain ⟨bs,hd,hn,hall⟩:=m2
  refine ⟨bs1,bs++bs2,vm,by rw [hd,h1];simp,?_,h3.mp_any⟩
  have:=Mk.trans (B:=B) (st:=st) (E:=E) (Pp:=Pp) (a2:={ a2 with defers:=bs.map mkD++(bs2.map mkD++(bs1.map mkD++d0)) }) hsz h2 (d2:=bs.map mkD++(bs2.map mkD++(bs1.map mkD++d0)))
   (by have:=Sim.dfr (d:=bs.map mkD++(bs2.map mkD++(bs1.map mkD++d0))) (B:=B.here E Pp st.o d w) k;exact this) ⟨bs,rfl,hn,hall⟩
  simpa using this
theorem regAny_ok (htt:TtOk P G.tt) (hb:B.E0.length=G.n0) {id:Nat} {ops:Array Oper} {Q:St→Prop} {X:Act→World→Prop} (hX:∀ E Pp st a w,Sim G.tt G.n B E Pp st a w→Q st→X a w) (hs:Sim G.tt G.n B E Pp st a w) (h:regP std G (FCx P G.tt) id ops true st Q):
 wpAnyIn (fen none) 0 P .any ops (fun e a w=>match e with| .normal=>X a w|_=>False) ops.size (Array.replicate ops.size false) a { w with drawn:=w.drawn+1 }:=by
 have hany:drawOk G ops ops.toList 0 ops.toList=true∧anyR std G (FCx P G.tt) ops.toList (lenL ops.toList) (prepR 0 ops.toList) 0 ⟨st.s,hurtO (cutRows st.s ops.toList ops.toList) 0 st.o⟩ Q:=by
  simp only [regP] at h
  split at h
  ·exact ⟨h.1 (fun h=>h),h.2⟩
  ·have h1:=h.1 (fun h=>h)
   simp only [Bool.and_eq_true] at h1
   refine ⟨h1.1,?_⟩
   rw [← linR_eq std G (FCx P G.tt) _ _ _ _ _ ?_ h1.2]
   ·exact h.2
   ·intro i m o hm
    obtain ⟨j,e1,e2,_⟩:=(prepR_mem _ _ _ _ _).1 hm
    rw [nthOp_eq,e2,Nat.zero_add];exact e1
 obtain ⟨h1,h2⟩:=hany
 have hd:Sim G.tt G.n B E (hurtP G.tt E st.o w Pp (cutRows st.s ops.toList ops.toList)) ⟨st.s,hurtO (cutRows st.s ops.toList ops.toList) 0 st.o⟩ a { w with drawn:=w.drawn+1 }:=by
  have:=(hs.toW.hurt (cutRows st.s ops.toList ops.toList)).drew
  exact SimW.sim (st:=⟨st.s,hurtO (cutRows st.s ops.toList ops.toList) 0 st.o⟩) this (fun t=>(hs.slots t).mono (fun _ _ h=>h) (fun _ _ h=>.inl h)) hs.size hs.defers
 rw [lenL_eq,Array.length_toList] at h2
 exact (anyR_ok (r0:=none) (B:=B) htt hb h1 (Q:=Q) (Q':=fun e a w=>match e with| .normal=>X a w|_=>False) hX (fun _ _ _ h=>h) ops.size _ _ _ _ E _ a _ (Listed.start ops) hd h2).any
theorem dwp_ok {LP:Code→St→(Ex→St→Prop)→Prop} (htt:TtOk P G.tt) (hm:P.follows .mixedOrders=true) (hL:∀ c st Q,LP c st Q→PWp P G.tt G.n G.n0 none c st Q):∀ (c:Code) (st:St) (Q:Option Dl→Ex→St→Prop),dwp std G (FCx P G.tt) LP c st Q→DWp P G.tt G.n G.n0 c st Q:=by
 have hP:=fun c st Q (h:pwp std G (FCx P G.tt) LP c st Q)=>pwp_okL (r:=none) htt hm hL c st Q h
 intro c
 induction c with
 |region id ops draw=>
  intro st Q h
  unfold dwp at h
  split at h
  ·intro B E Pp a w hb hs
   have:=runD_ok (B:=B.here E Pp st.o a.defers w) htt hb (all:=ops) (Q:=fun o s=>Q o .normal s) ops.toList 0 rfl st E Pp a w hs.here h
   refine wpIn_mono (Q:=fun e a' w'=>∃ x st' E' Pp',e= .normal∧Sim G.tt G.n ((B.here E Pp st.o a.defers w).at a'.defers) E' Pp' st' a' w'∧(match x with|none=>a'.defers=a.defers|some q=>∃ vm,a'.defers=dlD q vm::a.defers∧VR G.tt B.E0 Pp' vm (.mp q.r))∧Q x .normal st') (wpIn_region (by rw [Array.length_toList] at this;rw [List.range_eq_range'];exact this)) ?_
   rintro e a' w' ⟨x,st',E',Pp',rfl,hs',hx,hq⟩
   refine ⟨.normal,st',E',Pp',x,trivial,hs.back (d2:=a'.defers) hs',?_,hs'.fr.size,hq⟩
   cases x with
   |none=>exact Mk.none hx
   |some q=>obtain ⟨vm,h1,h2⟩:=hx;exact ⟨[],[],vm,h1,Mk.none rfl,h2⟩
  ·split at h
   ·rename_i p o hsp
    cases hbc:(backOk 0 ops.toList&&succOk 0 ops.toList) with
    |false=>rw [hbc] at h;exact h.elim
    |true=>
     rw [hbc] at h
     rw [Bool.and_eq_true] at hbc
     have hlo:=LastOk.of hsp hbc.1 hbc.2
     intro B E Pp a w hb hs
     obtain ⟨Qf,hQf⟩:∃ Qf,Qf=DfQ G.tt G.n (B.here E Pp st.o a.defers w) (fun o s=>Q o .normal s):=⟨_,rfl⟩
     have hgo:=regAny_ok (B:=B.here E Pp st.o a.defers w) (ops:=(⟨p⟩:Array Oper)) htt hb (Q:=fun s=>runD std G (FCx P G.tt) ops.toList [o] s fun x s=>Q x .normal s)
      (X:=fun a w=>wpOpIn (fen none) 0 P ops Qf p.length (fun a' w'=>Qf .normal a' w') a w)
      (fun E' Pp' st' a' w' hs' hq=>by
        have:=runD_ok (B:=B.here E Pp st.o a.defers w) htt hb (all:=ops) (Q:=fun o s=>Q o .normal s) [o] p.length (by rw [splitL_eq hsp];simp) st' E' Pp' a' w' hs' hq
        rw [← hQf] at this
        simp only [List.length_singleton,List.range'_one,wpOpsIn_cons] at this
        exact this) hs.here h
     have hany:=any_push (n:=0) hlo (F:=fen none) (P:=P) (Q:=Qf) (Q1:=fun e a w=>match e with| .normal=>wpOpIn (fen none) 0 P ops Qf p.length (fun a' w'=>Qf .normal a' w') a w|_=>False)
      (fun e a w he h=>by cases e<;>first|exact he rfl|exact h) (fun a w h=>h) p.length (Array.replicate (p.length+1) false) a { w with drawn:=w.drawn+1 } (by simp) (by simp [Array.getD_eq_getD_getElem?]) (fun j o ho hj=>by
        rw [Array.getD_eq_getD_getElem?,Array.getElem?_replicate] at hj
        split at hj<;>simp at hj) (by simpa using hgo)
     subst hQf
     refine wpIn_mono (wpIn_region_any hm (by rw [show ops.size=p.length+1 by rw [hlo.size];rfl];exact hany)) ?_
     rintro e a' w' ⟨x,st',E',Pp',rfl,hs',hx,hq⟩
     refine ⟨.normal,st',E',Pp',x,trivial,hs.back (d2:=a'.defers) hs',?_,hs'.fr.size,hq⟩
     cases x with
     |none=>exact Mk.none hx
     |some q=>obtain ⟨vm,h1,h2⟩:=hx;exact ⟨[],[],vm,h1,Mk.none rfl,h2⟩
   ·exact h.elim
  ·exact .of_pwp (hP _ _ _ h)
 |seq x y ihx ihy=>
  intro st Q h B E Pp a w hb hs
  unfold dwp at h
  split at h
  ·refine wpIn_seq (wpIn_mono (hP _ _ _ h B E Pp a w hb hs) ?_)
   rintro e a' w' ⟨ex,st',E',Pp',he,hs',hm',hsz,hq⟩
   cases e<;>cases ex<;>simp only [exOk] at he
   ·refine wpIn_mono (ihy _ _ hq (B.here E' Pp' st'.o a'.defers w') E' Pp' a' w' hb hs'.here) ?_
    rintro e2 a2 w2 ⟨ex2,st2,E2,Pp2,x2,he2,k,m2,sz2,q2⟩
    exact ⟨ex2,st2,E2,Pp2,x2,he2,Sim.back (B:=B.at a'.defers) hs' k,MkD.trans hsz hm' k m2,Nat.le_trans hsz sz2,q2⟩
   ·subst he;exact ⟨.exit _,st',E',Pp',none,rfl,hs',hm',hsz,hq⟩
   ·exact ⟨.ret,st',E',Pp',none,trivial,hs',hm',hsz,hq⟩
  ·refine wpIn_seq (wpIn_mono (ihx _ _ h B E Pp a w hb hs) ?_)
   rintro e a' w' ⟨ex,st',E',Pp',x,he,hs',hm',hsz,hq⟩
   cases e<;>cases ex<;>simp only [exOk] at he
   ·refine wpIn_mono (hP _ _ _ hq (B.here E' Pp' st'.o a'.defers w') E' Pp' a' w' hb hs'.here) ?_
    rintro e2 a2 w2 ⟨ex2,st2,E2,Pp2,he2,k,m2,sz2,q2⟩
    exact ⟨ex2,st2,E2,Pp2,x,he2,Sim.back (B:=B.at a'.defers) hs' k,MkD.after hsz hm' k m2,Nat.le_trans hsz sz2,q2⟩
   ·subst he;exact ⟨.exit _,st',E',Pp',x,rfl,hs',hm',hsz,hq⟩
   ·exact ⟨.ret,st',E',Pp',x,trivial,hs',hm',hsz,hq⟩
 |cond c x y ihx ihy=>
  intro st Q h B E Pp a w hb hs
  have hc:=ev_ok hs.slots c
  unfold dwp at h
  have setT_sim:∀ (b t:Bool),ev st.s c= .bool t→t=b→Sim G.tt G.n B E Pp (setT c b st) a w:=by
   intro b t hev ht
   cases c with
   |tmp d=>
    simp only [setT]
    simp only [ev] at hev
    have hl:look st.s d= .bool t:=by
     cases hx:look st.s d<;>rw [hx] at hev<;>simp [norm] at hev
     rw [hev]
    exact set_bool hs hl ht
   |_=>exact hs
  split at h
  ·rename_i hev;rw [hev] at hc
   generalize hg:a.eval c=v at hc
   cases hc
   exact wpIn_cond_true hg (ihx _ _ h B E Pp a w hb hs)
  ·rename_i hev;rw [hev] at hc
   generalize hg:a.eval c=v at hc
   cases hc
   exact wpIn_cond_false hg (ihy _ _ h B E Pp a w hb hs)
  ·rename_i t hev;rw [hev] at hc
   generalize hg:a.eval c=v at hc
   cases hc
   cases t with
   |true=>exact wpIn_cond_true hg (ihx _ _ (h.1 rfl) B E Pp a w hb (setT_sim _ _ hev rfl))
   |false=>exact wpIn_cond_false hg (ihy _ _ (h.2 rfl) B E Pp a w hb (setT_sim _ _ hev rfl))
  ·exact h.elim
 |block id c ih=>
  intro st Q h B E Pp a w hb hs
  unfold dwp at h
  refine wpIn_block (wpIn_mono (ih _ _ h B E Pp a w hb hs) ?_)
  rintro e a' w' ⟨ex,st',E',Pp',x,he,hs',hm',hsz,hq⟩
  cases e<;>cases ex<;>simp only [exOk] at he
  ·exact ⟨.normal,st',E',Pp',x,trivial,hs',hm',hsz,hq⟩
  ·rename_i i j
   subst he
   simp only [Exit.inBlock]
   simp only at hq
   by_cases hij:i=id
   ·subst hij
    rw [nb_refl] at hq
    rw [if_pos rfl]
    exact ⟨.normal,st',E',Pp',x,trivial,hs',hm',hsz,hq⟩
   ·have hb:nb i id=false:=by
     cases hb:nb i id with
     |false=>rfl
     |true=>exact absurd (nb_of hb) hij
    rw [hb] at hq
    rw [if_neg hij]
    exact ⟨.exit _,st',E',Pp',x,rfl,hs',hm',hsz,hq⟩
  ·exact ⟨.ret,st',E',Pp',x,trivial,hs',hm',hsz,hq⟩
 |_=>intro st Q h;exact .of_pwp (hP _ _ _ h)
theorem leavesB1 {tt:TypeId→Option TI} {N:Nat} {fn:Func} {tmps:Array Value} {R:Ending→World→Prop} {ds:List Deferred}:∀ (bs:List Nat) (w:World),bs.Nodup→(∀ b∈bs,B.w0.heap.size≤b∧w.heap[b]? =some (.deferred (some []))∧¬own E st.o b)→Sim tt N B E Pp st a w→
 (∀ w',Sim tt N B E Pp st a w'→(∀ k,k∉bs→w'.heap[k]? =w.heap[k]?)→LeavesB P fn tmps R ds w')→LeavesB P fn tmps R (bs.map mkD++ds) w
 |[],w,_,_,hs,h=>h w hs fun _ _=>rfl
 |b::bs,w,hnd,hb,hs,h=>by
  rw [List.nodup_cons] at hnd
  obtain ⟨h1,h2,h3⟩:=hb b (by simp)
  refine .inl ⟨b,w.putObj b (.deferred none),rfl,run_takeDeferred h2,?_⟩
  refine leavesB1 bs _ hnd.2 (fun b' hb'=> ?_) (hs.putMark h2 h3 h1) fun w' hs' hk=>h w' hs' fun k hn=> ?_
  ·obtain ⟨q1,q2,q3⟩:=hb b' (by simp [hb'])
   refine ⟨q1,?_,q3⟩
   rw [World.putObj_heap_other (by rintro rfl;exact hnd.1 hb')]
   exact q2
  ·rw [hk k (fun h=>hn (by simp [h])),World.putObj_heap_other (by rintro rfl;exact hn (by simp))]
theorem mkD_inj:∀ {a b:List Nat},a.map mkD=b.map mkD→a=b
 |[],[],_=>rfl
 |[],_::_,h=>by cases h
 |_::_,[],h=>by cases h
 |x::a,y::b,h=>by
  simp only [List.map_cons,List.cons.injEq] at h
  have:x=y:=by have:=h.1;unfold mkD at this;cases this;rfl
  rw [this,mkD_inj h.2]
def delO (n:Nat) (q:Dl):Oper:={ dst:=none,op:=.call { callee:=.builtin .delete,args:= #[.tmp n,.tmp (n+1)],argTypes:=q.ts },type:=q.ty,pos:= "",after:= #[],guard:=none }
theorem FC.liveD {LP:Code→St→(Ex→St→Prop)→Prop} (hL:∀ c st Q,LP c st Q→PWp P G.tt G.n G.n0 none c st Q) {f:FuncId} {fn:Func} {c:Code} {objs:List Ob} {args:List PV} {K:PV→List Ob→Prop} (htt:TtOk P G.tt) (hm:P.follows .mixedOrders=true) (hf:P.funcs[f]? =some fn) (hb:fn.body=some c) (hres:fn.results.toList=[])
 (hs:((fn.name== "runtime.NumGoroutine")==false&&nb fn.ntmps G.n&&nb (lenL objs) G.n0&&nle (lenL args) G.n)=true)
 (h:dwp std G (FCx P G.tt) LP c (liveStart objs args) fun x e st=>match e with
   | .exit _=>False
   |_=>match x with
    |none=>retLiveK G G.n0 [] st K
    |some q=>stepC std G (FCx P G.tt) (delO G.n q) ⟨(G.n,.mp q.r)::(G.n+1,.str q.s)::st.s,st.o⟩ fun _ st=>retLiveK G G.n0 [] st K):FC P G.tt f objs args K:=by
 simp only [Bool.and_eq_true,beq_iff_eq] at hs
 obtain ⟨⟨⟨h1,h2⟩,h3⟩,h4⟩:=hs
 have h3:=nb_of h3
 rw [lenL_eq] at h3
 intro E Pp w vals hw hv
 obtain ⟨E1,hs0⟩:=startL (nb_of h2) h4 E Pp w vals hw hv
 refine .inl ⟨enter_run hf hb h1,?_⟩
 have hr0:∀ (tmps:Array Value) w,(results fn tmps).run P w= .ok (.tuple #[]) w:=by
  intro tmps w
  have:fn.results= #[]:=by apply Array.ext';simpa using hres
  simp [results,this]
 have fin:∀ {N E' Pp' st' a' w' d},Sim G.tt N { w0:=w,E0:=E,P0:=Pp,own0:=own E objs,d0:=d } E' Pp' st' a' w'→retLiveK G G.n0 [] st' K→∀ tmps,LeavesB P fn tmps (FCPost G.tt E Pp objs w K) [] w':=by
  intro N E' Pp' st' a' w' d hs' hr tmps
  refine ⟨_,hr0 tmps w',?_⟩
  have hr:outK objs.length (.tup []) st'.o (keepL G.n0 st' (.tup [])) K:=by rw [h3];exact hr
  exact outK_ok hw (s':=st'.s) (o':=st'.o) hs' (.tup [] [] .nil) hr
 refine callsIn_wide.1 (callsIn_of_wp_B hf hb (wpIn_mono (dwp_ok htt hm hL c _ _ h _ E1 Pp _ w (by rw [← h3];exact hw.len) hs0) ?_))
 rintro e a' w' ⟨ex,st',E',Pp',x,he,hs',hmk,hsz,hq⟩
 have go:(match x with
  |none=>retLiveK G G.n0 [] st' K
  |some q=>stepC std G (FCx P G.tt) (delO G.n q) ⟨(G.n,.mp q.r)::(G.n+1,.str q.s)::st'.s,st'.o⟩ fun _ st=>retLiveK G G.n0 [] st K)→LeavesB P fn a'.tmps (FCPost G.tt E Pp objs w K) a'.defers w':=by
  intro hr
  cases x with
  |none=>
   obtain ⟨bs,hbs,hnd,hall⟩:=hmk
   rw [hbs]
   exact leavesB1 bs w' hnd (fun b hb=>⟨(hall b hb).1,(hall b hb).2.2.1,(hall b hb).2.2.2⟩) hs' fun w2 hs2 _=>fin hs2 hr _
  |some q=>
   obtain ⟨bs1,bs2,vm,hd,⟨bs,hbs,hnd,hall⟩,hvm⟩:=hmk
   have hbs:bs=bs2++bs1:=mkD_inj (by simpa using hbs.symm)
   subst hbs
   rw [List.nodup_append] at hnd
   obtain ⟨hn2,hn1,hdis⟩:=hnd
   have hN:a'.tmps.size=G.n:=hs'.size
   rw [hd]
   refine leavesB1 bs2 w' hn2 (fun b hb=>⟨(hall b (by simp [hb])).1,(hall b (by simp [hb])).2.2.1,(hall b (by simp [hb])).2.2.2⟩) hs' fun w2 hs2 hk2=> ?_
   have hall2:∀ b∈bs1,w.heap.size≤b∧b<w2.heap.size∧w2.heap[b]? =some (.deferred (some []))∧¬own E' st'.o b:=fun b hb=>by
    obtain ⟨q1,q2,q3,q4⟩:=hall b (by simp [hb])
    have hk:=hk2 b (fun h=>hdis b h b hb rfl)
    rw [q3] at hk
    refine ⟨q1,?_,hk,q4⟩
    rcases Nat.lt_or_ge b w2.heap.size with h'|h'
    ·exact h'
    ·rw [Array.getElem?_eq_none h'] at hk;cases hk
   -- the places of what was deferred
   obtain ⟨ax,hax⟩:∃ ax:Act,ax=⟨a'.tmps++ #[vm,.string ⟨q.s.toArray⟩],a'.defers⟩:=⟨_,rfl⟩
   obtain ⟨stx,hstx⟩:∃ stx:St,stx=⟨(G.n,.mp q.r)::(G.n+1,.str q.s)::st'.s,st'.o⟩:=⟨_,rfl⟩
   have g0:ax.tmps.getD G.n undef=vm:=by rw [hax,←hN];simp [Array.getD_eq_getD_getElem?]
   have g1:ax.tmps.getD (G.n+1) undef= .string ⟨q.s.toArray⟩:=by rw [hax,←hN];simp [Array.getD_eq_getD_getElem?,Array.getElem?_append]
   have hsx:∀ t,VR G.tt E' Pp' (ax.tmps.getD t undef) (look stx.s t):=by
    intro t
    rw [hstx]
    simp only [look_cons]
    split
    ·rename_i e;subst e;rw [g0]
     exact (VR.mono_all hs'.pre (fun _ _ h=>h)).1 hvm
    ·split
     ·rename_i e;subst e;rw [g1]
      have:=VR.str (tt:=G.tt) (E:=E') (Pp:=Pp') ⟨q.s.toArray⟩
      simpa using this
     ·rename_i e1 e2
      have:=hs'.slots t
      have e:ax.tmps.getD t undef=a'.tmps.getD t undef:=by
       rw [hax]
       simp only [Array.getD_eq_getD_getElem?,Array.getElem?_append]
       split
       ·rfl
       ·rename_i hge
        rw [Array.getElem?_eq_none (by simp;omega),Array.getElem?_eq_none (by omega)]
      rw [e];exact this
   have hsB:Sim G.tt (G.n+2) { w0:=w,E0:=E,P0:=Pp,own0:=own E objs,d0:=a'.defers } E' Pp' stx ax w2:=⟨by rw [hstx];exact hs2.wr,hsx,by rw [hax];simp [hN],by rw [hax],hs2.pre,hs2.per,hs2.fr,hs2.pnew,by rw [hstx];exact hs2.fresh⟩
   have hop:=stepC_ok (r0:=none) (B:={ w0:=w2,E0:=E,P0:=Pp',own0:=own E' stx.o,d0:=a'.defers }) (a:=ax) (w:=w2) (E:=E') (Pp:=Pp') (st:=stx) htt (by show E.length=_;rw [hw.len,h3])
    ⟨hsB.wr,hsB.pre,fun _ _ h=>h,Fr.refl _ _,fun _ _ h=>.inl h,fun i o ri b h1 h2 h3 h4=>.inr ⟨i,o,ri,h1,h2,h3,h4⟩⟩ hsx (by rw [hstx];exact hr) (Q:=fun _ _ _=>False)
   have hop:=hop.2
   have hexec:execOp ax.eval (delO G.n q)=(do let v ←Builtin.delete_ q.ts q.ty #[vm,.string ⟨q.s.toArray⟩];pure (.value v):Sem Next):=by
    simp [execOp,delO,resolve,invoke,builtin,Act.eval,g0,g1]
   have hinv:invoke (dlD q vm).target (dlD q vm).args=(do let v ←Builtin.delete_ q.ts q.ty #[vm,.string ⟨q.s.toArray⟩];pure (.value v):Sem Next):=by
    simp [dlD,invoke,builtin]
   rw [show (fen none).round=none from rfl,Oper.semAt_none,hexec,←hinv] at hop
   generalize hrun:(invoke (dlD q vm).target (dlD q vm).args).run P w2=res at hop
   have hval:∃ v w3,res= .ok (.value v) w3:=by
    rw [hinv,Sem.run_bind] at hrun
    cases hx:(Builtin.delete_ q.ts q.ty #[vm,.string ⟨q.s.toArray⟩]).run P w2 with
    |ok v w3=>rw [hx] at hrun;exact ⟨v,w3,by rw [← hrun];rfl⟩
    |halt s w3=>
     rw [hx] at hrun
     rw [← hrun] at hop
     cases s<;>exact hop.elim
   obtain ⟨v,w3,rfl⟩:=hval
   obtain ⟨st3,E3,Pp3,v',pv,hput,_,hs3,hW3,hK3,_,_⟩:=hop
   have hput:ax.put (delO G.n q).dst v'=ax:=rfl
   refine .inr ⟨.delete,q.ts,q.ty,#[false,false],_,v,w3,rfl,hrun,?_⟩
   have k3:Sim G.tt (G.n+2) { w0:=w2,E0:=E,P0:=Pp',own0:=own E' stx.o,d0:=a'.defers } E3 Pp3 st3 ax w3:=hW3.sim hs3 (by rw [hax];simp [hN]) (by rw [hax])
   have b3:=Sim.back (d:=a'.defers) (d2:=a'.defers) hsB k3
   have hso:stx.o=st'.o:=by rw [hstx]
   refine leavesB1 bs1 w3 hn1 (fun b hb=> ?_) b3 fun w4 hs4 _=>fin hs4 hK3 _
   obtain ⟨q1,q2,q3,q4⟩:=hall2 b hb
   refine ⟨q1,?_,?_⟩
   ·rw [k3.fr.block b q2 (by show ¬own E' stx.o b;rw [hso];exact q4)];exact q3
   ·rintro ⟨i,o,ri,r1,r2,r3,r4⟩
    rcases k3.fresh i o ri b r1 r2 r3 r4 with r5|r5
    ·have r5:w2.heap.size≤b:=r5
     omega
    ·have r5:own E' stx.o b:=r5
     rw [hso] at r5;exact q4 r5
 cases e<;>cases ex<;>simp only [exOk] at he
 ·exact go (by cases x<;>exact hq)
 ·exact hq.elim
 ·exact go (by cases x<;>exact hq)
end
end Go.VC
end

section
namespace Go.VC
open Go Go.ChangeShapes
def AllP (w:World):Per:=fun ad v=>w.cell? ad=some v
inductive Bd (n:Nat):D→Prop
 |int (k) (h: -9223372036854775808≤k∧k≤9223372036854775807):Bd n (.int k)
 |bool (b):Bd n (.bool b)
 |str (s:List UInt8) (h:s.length≤n):Bd n (.str s)
 |nil:Bd n .nil
 |list (rows:List (List D)) (h:rows.length≤n) (hr:∀ row∈rows,∀ d∈row,Bd n d):Bd n (.list rows)
 |ptr (cs:List D) (hr:∀ d∈cs,Bd n d):Bd n (.ptr cs)
def noU64 (tt:TypeId→Option TI) (t:TypeId):Bool:=match tt t with
 |some ti=>ti.cks.all fun ck=>match ck with| .int .u64=>false|_=>true
 |none=>true
theorem wf_i64 {k:IntKind} {m:Int} (h:(Lit.int k m).wf=true) (hk:k≠ .u64): -9223372036854775808≤m∧m≤9223372036854775807:=by
 simp only [Lit.wf,Bool.and_eq_true,decide_eq_true_eq] at h
 cases k<;>simp [IntKind.min,IntKind.max,IntKind.signed,IntKind.bits] at h hk<;>omega
mutual
def wD:D→Nat
 | .int _=>1
 | .bool _=>1
 | .str _=>1
 | .nil=>1
 | .ptr cs=>1+wDs cs
 | .list rows=>1+wDr rows
def wDs:List D→Nat
 |[]=>0
 |d::l=>wD d+wDs l
def wDr:List (List D)→Nat
 |[]=>0
 |r::l=>wDs r+wDr l
end
theorem wDs_app:∀ (a b:List D),wDs (a++b)=wDs a+wDs b
 |[],b=>by simp [wDs]
 |d::a,b=>by simp only [List.cons_append,wDs,wDs_app a b];omega
theorem wDr_sum:∀ (l:List (List D)),wDr l=(l.map wDs).sum
 |[]=>by simp [wDr]
 |r::l=>by simp only [wDr,List.map_cons,List.sum_cons,wDr_sum l]
structure BulkOk {H:Type} (bulk:DataW H→Nat):Prop where
 str:∀ s,s.length≤bulk (.lit (.string s))
 slice:∀ es sp,es.length≤bulk (.slice es sp)∧∀ e∈es,bulk e≤bulk (.slice es sp)
 agg:∀ ps,∀ e∈ps,bulk e≤bulk (.agg ps)
 ptr:∀ d,bulk d≤bulk (.ptr d)
 one:∀ d,1≤bulk d
 sums:∀ es sp,1+(es.map bulk).sum≤bulk (.slice es sp)
 suma:∀ ps,(ps.map bulk).sum≤bulk (.agg ps)
inductive RowRD (tt:TypeId→Option TI) (Pp:Per) (n:Nat):List CK→List Value→List D→Prop
 |nil:RowRD tt Pp n [] [] []
 |cons (ck v d cks vs ds) (h:RD tt Pp ck v d) (hb:Bd n d) (t:RowRD tt Pp n cks vs ds):RowRD tt Pp n (ck::cks) (v::vs) (d::ds)
section
variable {tt:TypeId→Option TI} {Pp:Per} {n:Nat}
theorem RowRD.append {cks cks':List CK} {vs vs':List Value} {ds ds':List D} (h:RowRD tt Pp n cks vs ds) (k:RowRD tt Pp n cks' vs' ds'):RowRD tt Pp n (cks++cks') (vs++vs') (ds++ds'):=by
 induction h with
 |nil=>exact k
 |cons ck v d cks vs ds h hb _ ih=>exact .cons _ _ _ _ _ _ h hb ih
theorem RowRD.len {cks:List CK} {vs:List Value} {ds:List D} (h:RowRD tt Pp n cks vs ds):vs.length=cks.length∧ds.length=cks.length:=by
 induction h with
 |nil=>exact ⟨rfl,rfl⟩
 |cons _ _ _ _ _ _ _ _ _ ih=>simp [ih.1,ih.2]
theorem RowRD.get {cks:List CK} {vs:List Value} {ds:List D} (h:RowRD tt Pp n cks vs ds):∀ {j:Nat} {ck:CK} {v:Value} {d:D},cks[j]? =some ck→vs[j]? =some v→ds[j]? =some d→RD tt Pp ck v d∧Bd n d:=by
 induction h with
 |nil=>intro j ck v d h;simp at h
 |cons ck v d cks vs ds h hb _ ih=>
  intro j ck' v' d' h1 h2 h3
  cases j with
  |zero=>simp at h1 h2 h3;subst h1 h2 h3;exact ⟨h,hb⟩
  |succ j=>exact ih (by simpa using h1) (by simpa using h2) (by simpa using h3)
theorem RowRD.bd {cks:List CK} {vs:List Value} {ds:List D} (h:RowRD tt Pp n cks vs ds):∀ d∈ds,Bd n d:=by
 induction h with
 |nil=>intro d hd;simp at hd
 |cons ck v d cks vs ds h hb _ ih=>
  intro d' hd
  rcases List.mem_cons.1 hd with rfl|hd
  ·exact hb
  ·exact ih d' hd
theorem RowRD.of_get:∀ {cks:List CK} {vs:List Value} {ds:List D},vs.length=cks.length→ds.length=cks.length→
 (∀ (j:Nat) (ck:CK) (v:Value) (d:D),cks[j]? =some ck→vs[j]? =some v→ds[j]? =some d→RD tt Pp ck v d∧Bd n d)→RowRD tt Pp n cks vs ds
 |[],[],[],_,_,_=>.nil
 |ck::cks,v::vs,d::ds,h1,h2,h=>.cons _ _ _ _ _ _ (h 0 ck v d rfl rfl rfl).1 (h 0 ck v d rfl rfl rfl).2 (RowRD.of_get (by simpa using h1) (by simpa using h2) fun j ck v d a b c=>h (j+1) ck v d (by simpa using a) (by simpa using b) (by simpa using c))
 |[],_::_,_,h1,_,_=>by simp at h1
 |[],[],_::_,_,h2,_=>by simp at h2
 |_::_,[],_,h1,_,_=>by simp at h1
 |_::_,_::_,[],_,h2,_=>by simp at h2
theorem RD.rows {e:TypeId} {v:Value} {d:D} (h:RD tt Pp (.slice e) v d) (hb:Bd n d):∃ rows,d= .list rows∧rows.length≤n∧∀ row∈rows,∃ vs,RowRD tt Pp n (cksOf tt e) vs row:=by
 cases hb with
 |list rows hl hr=>
  refine ⟨rows,rfl,hl,?_⟩
  cases h with
  |slnil=>intro row h;simp at h
  |sl0=>intro row h;simp at h
  |sl _ b o len cap _ vf hlen hc hrow hpi hrd=>
   intro row hm
   obtain ⟨i,hi⟩:=List.getElem?_of_mem hm
   refine ⟨(List.range (cksOf tt e).length).map (vf i),RowRD.of_get (by simp) (hrow i row hi) ?_⟩
   intro j ck v d h1 h2 h3
   have hj:=lt_of_get h1
   simp [hj] at h2
   subst h2
   exact ⟨hrd i j row d ck hi h3 h1,hr row hm d (List.mem_of_getElem? h3)⟩
 |int=>cases h
 |bool=>cases h
 |str=>cases h
 |nil=>cases h
 |ptr=>cases h
theorem lift_map {α β:Type} {f:α→β} {p:α→Prop}:∀ {rows:List β},(∀ r∈rows,∃ x,r=f x∧p x)→∃ l:List α,rows=l.map f∧∀ x∈l,p x
 |[],_=>⟨[],rfl,fun x h=>by simp at h⟩
 |r::rows,h=>by
  obtain ⟨x,rfl,hp⟩:=h r (by simp)
  obtain ⟨l,rfl,hl⟩:=lift_map (rows:=rows) (fun r hr=>h r (by simp [hr]))
  refine ⟨x::l,rfl,fun y hy=> ?_⟩
  rcases List.mem_cons.1 hy with rfl|hy
  ·exact hp
  ·exact hl y hy
end
theorem sum_range_le {f:Nat→Nat}:∀ {len:Nat} {l:List Nat},(∀ i,i<len→f i≤l.getD i 0)→len≤l.length→((List.range len).map f).sum≤l.sum
 |len,[],_,hl=>by simp at hl;subst hl;simp
 |0,l,_,_=>by simp
 |len+1,x::l,h,hl=>by
  rw [List.range_succ_eq_map,List.map_cons,List.sum_cons,List.map_map,List.sum_cons]
  have h0:=h 0 (by omega)
  have:=sum_range_le (f:=f∘Nat.succ) (len:=len) (l:=l) (fun i hi=>by have:=h (i+1) (by omega);simpa using this) (by simpa using hl)
  simp at h0
  omega
def tileB (tt:TypeId→Option TI) (S:List TypeId):Nat→List (Nat×TypeId)→List CK→Bool
 |_,[],cks=>cks.isEmpty
 |off,(o,ft)::fs,cks=>nb o off&&S.contains ft&&decide (cks.take (cksOf tt ft).length=cksOf tt ft)&&tileB tt S (off+(cksOf tt ft).length) fs (cks.drop (cksOf tt ft).length)
def dataB (tt:TypeId→Option TI) (S:List TypeId) (t:TypeId):Bool:=match tt t with
 |none=>false
 |some ti=>match ti.agg with
  |true=>nb ti.ar 0&&tileB tt S 0 ti.fs ti.cks
  |false=>match ti.cks with
   |[.int _]=>true
   |[.bool]=>true
   |[.str]=>true
   |[.slice e]=>S.contains e&& !(cksOf tt e).isEmpty
   |_=>false
section
variable {P:Program} {tt:TypeId→Option TI} {H:Type} {enc:TypeId×Value→H} {w:World} {n:Nat}
theorem cellsOf_eq (htt:TtOk P tt) {t:TypeId} {ti:TI} (h:tt t=some ti):P.cellsOf t=(cksOf tt t).length:=by
 obtain ⟨i,z,d,hi,hsz,_⟩:=(htt t ti h).info
 simp [Program.cellsOf,hi,cksOf,h,hsz]
theorem cells?_get {base:Nat} {a:Addr} {m:Nat} {cs:List Value} (h:w.cells? base a m=some cs):cs.length=m∧∀ j,j<m→w.cell? (a.add j)=cs[j]? :=by
 unfold World.cells? at h
 split at h
 ·exact ⟨by simpa using mapM_some_length h,fun j hj=>mapM_some_get h j j (by simp [hj])⟩
 ·cases h
theorem tile_row {S:List TypeId} {fuel:Nat} {cs:List Value} {bulk:DataW H→Nat} (hcell:∀ ft,S.contains ft=true→P.cellsOf ft=(cksOf tt ft).length):
 ∀ (xs:List (DataW H×List MemPlace)) (fs:List (Nat×TypeId)) (off:Nat) (cks:List CK),
  (∀ (t:TypeId) (cs:List Value) (x:DataW H×List MemPlace),S.contains t=true→x∈xs→DataW.trod enc P w 0 (fun _=>true) true fuel t cs=some x→∃ ds,RowRD tt (AllP w) n (cksOf tt t) cs ds∧wDs ds≤bulk x.1)→
  tileB tt S off fs cks=true→cs.length=off+cks.length→
  (∀ (i o:Nat) (ft:TypeId),fs[i]? =some (o,ft)→∃ x,xs[i]? =some x∧DataW.trod enc P w 0 (fun _=>true) true fuel ft ((cs.drop o).take (P.cellsOf ft))=some x)→
  ∃ ds,RowRD tt (AllP w) n cks (cs.drop off) ds∧wDs ds≤(xs.map fun x=>bulk x.1).sum
 |xs,[],off,cks,_,h,hl,_=>by
  simp only [tileB,List.isEmpty_iff] at h
  subst h
  simp at hl
  rw [List.drop_eq_nil_of_le (by omega)]
  exact ⟨[],.nil,by simp [wDs]⟩
 |[],(o,ft)::fs,off,cks,_,h,hl,hx=>by
  obtain ⟨x,hm,_⟩:=hx 0 o ft rfl
  simp at hm
 |x0::xs,(o,ft)::fs,off,cks,ih,h,hl,hx=>by
  simp only [tileB,Bool.and_eq_true,decide_eq_true_eq] at h
  obtain ⟨⟨⟨h1,h2⟩,h3⟩,h4⟩:=h
  have:=nb_of h1
  subst this
  obtain ⟨x,hm,ht⟩:=hx 0 o ft rfl
  simp at hm
  subst hm
  obtain ⟨ds1,hd1,hw1⟩:=ih _ _ _ h2 (by simp) ht
  rw [hcell ft h2] at hd1
  have hlen:(cksOf tt ft).length≤cks.length:=by have:=congrArg List.length h3;simp at this;omega
  obtain ⟨ds2,hd2,hw2⟩:=tile_row (cs:=cs) hcell xs fs (o+(cksOf tt ft).length) (cks.drop (cksOf tt ft).length) (fun t cs x a b c=>ih t cs x a (by simp [b]) c) h4 (by simp;omega) (fun i o ft hi=>by
   obtain ⟨x,h5,h6⟩:=hx (i+1) o ft (by simpa using hi)
   exact ⟨x,by simpa using h5,h6⟩)
  refine ⟨ds1++ds2,?_,by rw [wDs_app,List.map_cons,List.sum_cons];omega⟩
  have:=hd1.append hd2
  rw [← h3] at this
  rw [show (List.take (cksOf tt ft).length cks).length=(cksOf tt ft).length by rw [h3]] at this
  rwa [List.take_append_drop,←List.drop_drop,List.take_append_drop] at this
theorem trod_row (htt:TtOk P tt) {S:List TypeId} (hS:S.all (dataB tt S)=true) (hU:S.all (noU64 tt)=true) {bulk:DataW H→Nat} (hb:BulkOk bulk):
 ∀ (fuel:Nat) (t:TypeId) (cs:List Value) (x:DataW H×List MemPlace),S.contains t=true→DataW.trod enc P w 0 (fun _=>true) true fuel t cs=some x→bulk x.1≤n→∃ ds,RowRD tt (AllP w) n (cksOf tt t) cs ds∧wDs ds≤bulk x.1:=by
 have hin:∀ t,S.contains t=true→dataB tt S t=true:=fun t ht=>List.all_eq_true.1 hS t (by simpa using ht)
 have hcell:∀ t,S.contains t=true→P.cellsOf t=(cksOf tt t).length:=by
  intro t ht
  have:=hin t ht
  unfold dataB at this
  split at this
  ·cases this
  ·rename_i ti hti;exact cellsOf_eq htt hti
 intro fuel
 induction fuel with
 |zero=>intro t cs x _ h;simp [DataW.trod] at h
 |succ fuel ih=>
  intro t cs x ht h hbx
  have hd:=hin t ht
  have hct:=hcell t ht
  unfold dataB at hd
  split at hd
  ·cases hd
  rename_i ti hti
  have hcks:cksOf tt t=ti.cks:=by simp [cksOf,hti]
  obtain ⟨i,z,d,hi,hsz,_,_,_,_,hu,hdesc⟩:=(htt t ti hti).info
  rw [hcks] at hct ⊢
  cases d with
  |int k=>
   obtain ⟨m,rfl,rfl,hwf⟩:=DataW.trod_int hu h
   have hku:k≠ .u64:=by
    rintro rfl
    have:=List.all_eq_true.1 hU t (by simpa using ht)
    rw [noU64,hti] at this
    simp [hdesc.2.1] at this
   rw [hdesc.2.1]
   exact ⟨_,.cons _ _ _ _ _ _ (.int _ _) (.int _ (wf_i64 hwf hku)) .nil,by simp only [wDs,wD];exact hb.one _⟩
  |bool=>
   obtain ⟨m,rfl,rfl⟩:=DataW.trod_bool hu h
   rw [hdesc.2.1]
   exact ⟨_,.cons _ _ _ _ _ _ (.bool _) (.bool _) .nil,by simp only [wDs,wD];exact hb.one _⟩
  |string=>
   obtain ⟨s,rfl,rfl,_⟩:=DataW.trod_string hu h
   rw [hdesc.2.1]
   exact ⟨_,.cons _ _ _ _ _ _ (.str _) (.str _ (Nat.le_trans (hb.str _) hbx)) .nil,by simp only [wDs,wD];exact hb.one _⟩
  |struct fields=>
   obtain ⟨ha,hf,_⟩:=hdesc
   rw [ha] at hd
   simp only [Bool.and_eq_true] at hd
   obtain ⟨xs,m,hm,rfl,hl,hxl,hx⟩:=DataW.trod_struct hu h
   cases hm
   have hbs:∀ y∈xs,bulk y.1≤n:=fun y hy=>Nat.le_trans (hb.agg _ _ (List.mem_map.2 ⟨y,hy,rfl⟩)) hbx
   have:=tile_row (n:=n) (cs:=cs) (bulk:=bulk) hcell xs ti.fs 0 ti.cks (fun t' cs' x' h1 h2 h3=>ih t' cs' x' h1 h3 (hbs _ h2)) hd.2 (by omega) ?_
   ·obtain ⟨ds,h1,h2⟩:=this
    refine ⟨ds,by simpa using h1,Nat.le_trans h2 ?_⟩
    have:=hb.suma (xs.map (·.1))
    rw [List.map_map] at this
    exact this
   ·intro j o ft hj
    rw [← hf j] at hj
    rw [Option.map_eq_some_iff] at hj
    obtain ⟨f,hf',he⟩:=hj
    cases he
    have hlt:j<fields.size:=by
     rcases Nat.lt_or_ge j fields.size with h'|h'
     ·exact h'
     ·rw [Array.getElem?_eq_none h'] at hf';cases hf'
    have:=hx j f hf'
    rw [List.getElem?_eq_getElem (by omega)] at this
    exact ⟨_,List.getElem?_eq_getElem (by omega),this⟩
  |slice e=>
   obtain ⟨ha,hck,_⟩:=hdesc
   rw [ha,hck] at hd
   simp only [Bool.and_eq_true,Bool.not_eq_true',List.isEmpty_eq_false_iff] at hd
   obtain ⟨he,hne⟩:=hd
   have hce:=hcell e he
   have hpos:0<(cksOf tt e).length:=List.length_pos_iff.2 hne
   rw [hck]
   rcases DataW.trod_slice hu h with ⟨rfl,rfl⟩|⟨a,len,cap,elems,rest,m,hm,rfl,rfl,_,hlc,hcap,hel,hget,hrest,_⟩
   ·exact ⟨_,.cons _ _ _ _ _ _ (.slnil _) (.list _ (by simp) (fun row h=>by simp at h)) .nil,by simp only [wDs,wD,wDr];exact hb.one _⟩
   ·cases hm
    obtain ⟨hrl,hrg⟩:=hrest rfl
    have hbl:=hb.slice (elems.map (·.1)) (rest.map (·.1))
    rw [hce] at hget hrg
    by_cases hc0:cap=0
    ·subst hc0
     have:len=0:=by omega
     subst this
     exact ⟨_,.cons _ _ _ _ _ _ (.sl0 _ a) (.list _ (by simp) (fun row h=>by simp at h)) .nil,by simp only [wDs,wD,wDr];exact hb.one _⟩
    ·-- an address without a spot
     have hspot:a.spot=none:=by
      have:∃ cs',w.cells? 0 (a.add 0) (cksOf tt e).length=some cs':=by
       by_cases hl0:0<len
       ·have:=hget 0 hl0
        rw [List.getElem?_eq_getElem (by omega),Option.bind_eq_some_iff] at this
        obtain ⟨cs',h1,_⟩:=this
        exact ⟨cs',by simpa using h1⟩
       ·have:=hrg 0 (by omega)
        rw [List.getElem?_eq_getElem (by omega),Option.bind_eq_some_iff] at this
        obtain ⟨cs',h1,_⟩:=this
        have hz:len=0:=by omega
        subst hz
        exact ⟨cs',by simpa using h1⟩
      obtain ⟨cs',h1⟩:=this
      obtain ⟨h2,h3⟩:=cells?_get h1
      have:=h3 0 hpos
      rw [List.getElem?_eq_getElem (by omega)] at this
      simpa [Addr.add] using World.cell?_spot this
     obtain ⟨b,o,sp⟩:=a
     simp only at hspot
     subst hspot
     have key:∀ i,∃ cs' ds,i<len→(cs'.length=(cksOf tt e).length∧(∀ j,j<(cksOf tt e).length→w.cell? ⟨b,o+i*(cksOf tt e).length+j,none⟩=cs'[j]?)∧RowRD tt (AllP w) n (cksOf tt e) cs' ds∧wDs ds≤(elems.map fun x=>bulk x.1).getD i 0):=by
      intro i
      by_cases hi:i<len
      ·have:=hget i hi
       rw [List.getElem?_eq_getElem (by omega),Option.bind_eq_some_iff] at this
       obtain ⟨cs',h1,h2⟩:=this
       have hbe:bulk (elems[i]'(by omega)).1≤n:=Nat.le_trans (hbl.2 _ (List.mem_map.2 ⟨_,List.getElem_mem _,rfl⟩)) hbx
       obtain ⟨ds,hds,hwd⟩:=ih e cs' _ he h2 hbe
       obtain ⟨h3,h4⟩:=cells?_get h1
       refine ⟨cs',ds,fun _=>⟨h3,fun j hj=> ?_,hds,by rw [List.getD_eq_getElem?_getD,List.getElem?_map,List.getElem?_eq_getElem (by omega)];exact hwd⟩⟩
       have:=h4 j hj
       rwa [add_none,add_none] at this
      ·exact ⟨[],[],fun h=>absurd h hi⟩
     have ⟨cf,key⟩:=Classical.skolem.1 key
     have ⟨df,key⟩:=Classical.skolem.1 key
     have hrows:∀ (i:Nat) (row:List D),((List.range len).map df)[i]? =some row→i<len∧row=df i:=by
      intro i row hi
      have hlt:=lt_of_get hi
      simp at hlt
      simp [hlt] at hi
      exact ⟨hlt,hi.symm⟩
     refine ⟨_,.cons _ _ _ _ _ _ (.sl e b o len cap ((List.range len).map df) (fun i j=>(cf i).getD j undef) (by simp) hlc ?_ ?_ ?_) (.list _ ?_ ?_) .nil,?_⟩
     ·intro i row hi
      obtain ⟨hlt,rfl⟩:=hrows i row hi
      exact (key i hlt).2.2.1.len.2
     ·intro i j hi hj
      obtain ⟨k1,k2,_⟩:=key i hi
      have:=k2 j hj
      rw [List.getElem?_eq_getElem (by omega)] at this
      show w.cell? _=some _
      rw [this]
      simp [List.getD_eq_getElem?_getD,k1,hj]
     ·intro i j row d ck hi hj hck
      obtain ⟨hlt,rfl⟩:=hrows i row hi
      obtain ⟨k1,_,k3,_⟩:=key i hlt
      have hjl:=lt_of_get hck
      exact (k3.get hck (v:=(cf i).getD j undef) (by rw [List.getElem?_eq_getElem (by omega)];simp [List.getD_eq_getElem?_getD,k1,hjl]) hj).1
     ·have h1:=hbl.1
      have h2:bulk (DataW.slice (elems.map (·.1)) (rest.map (·.1)))≤n:=hbx
      rw [List.length_map] at h1
      rw [List.length_map,List.length_range]
      omega
     ·intro row hrow d hd'
      obtain ⟨i,hi⟩:=List.getElem?_of_mem hrow
      obtain ⟨hlt,rfl⟩:=hrows i row hi
      exact (key i hlt).2.2.1.bd d hd'
     ·simp only [wDs,wD]
      have hsum:=hb.sums (elems.map (·.1)) (rest.map (·.1))
      rw [List.map_map] at hsum
      have hsum:1+(elems.map fun x=>bulk x.1).sum≤bulk (DataW.slice (elems.map (·.1)) (rest.map (·.1))):=hsum
      have hle:wDr ((List.range len).map df)≤(elems.map fun x=>bulk x.1).sum:=by
       rw [wDr_sum,List.map_map]
       exact sum_range_le (fun i hi=>(key i hi).2.2.2) (by rw [List.length_map];omega)
      omega
  |array m e=>
   obtain ⟨ha,har,_⟩:=hdesc
   rw [ha] at hd
   simp only [Bool.and_eq_true] at hd
   have:=nb_of hd.1
   omega
  |pointer e=>rw [hdesc.1,hdesc.2.1] at hd;cases hd
  |map k e=>rw [hdesc.1,hdesc.2.1] at hd;cases hd
  |func=>rw [hdesc.1,hdesc.2.1] at hd;cases hd
  |_=>exact hdesc.elim
def AllQ (w:World):Per:=fun ad v=>w.cell? ad=some v∨(ad.spot=some 1∧pc w ad=some v)
def GlW (tt:TypeId→Option TI) (w:World):Prop:=(∀ b,globOf tt=some b→∃ m:Int,w.cell? ⟨b,0,none⟩=some (.int .i64 m))∧
 ∀ g,g∈gtabOf tt→∃ T f,w.heap[g.1]? =some (.cells (g.2.2.map (Value.int g.2.1)).toArray T f)
theorem GlW.glF {w:World} (h:GlW tt w):GlF tt (AllQ w):=⟨fun b hb=>(h.1 b hb).imp fun _ hm=>.inl hm,fun g hg=>by
 obtain ⟨T,f,hc⟩:=h.2 g hg
 refine ⟨.inr ⟨rfl,?_⟩,fun i z hz=>.inl ?_⟩
 ·simp only [pc,hc,if_true,List.size_toArray,List.length_map]
 ·simp only [World.cell?,hc]
  simp [hz]⟩
theorem AllQ.wr (w:World) (hg:GlW tt w):WR tt [] (AllQ w) [] w:=⟨rfl,fun _ _ h=>h.elim pc_of_cell (·.2),fun i o h=>by simp at h,fun i j oi oj ri rj b h=>by simp at h,hg.glF⟩
theorem trodAll_stays (hl:laidOutB P=true) {W W':World} (hb:Go.RowKit.Below W.heap.size W W') {sp:Nat→Bool}:∀ {ts:List TypeId} {vs:List Value} {ds:List (DataW H)} {ps:List MemPlace},(∀ t∈ts,P.readableRec t=true∧t<P.types.size)→
 DataW.TrodAll enc P W 0 (fun _=>true) true ts vs ds ps→(∀ p∈ps,p.block<W.heap.size)→(∀ p∈ps,sp p.block=true)→DataW.TrodAll enc P W' 0 sp true ts vs ds ps
 |[],[],[],_,_,h,_,_=>h
 |_::_,_::_,_::_,_,ht,⟨p,q,h1,h2,e⟩,hlt,hs=>by
  subst e
  refine ⟨p,q,WideElems.Trod_stays hl (ht _ (by simp)).1 (ht _ (by simp)).2 h1 (fun x hx=>hb.same (hlt x (by simp [hx]))) (fun x hx=>hs x (by simp [hx])),?_,rfl⟩
  exact trodAll_stays hl hb (fun t h=>ht t (by simp [h])) h2 (fun x hx=>hlt x (by simp [hx])) (fun x hx=>hs x (by simp [hx]))
theorem law_post {fn:Func} {s:ChangeSpec} {apart fresh handsOn:Bool} {W:World} {f:FuncId} {vals:List Value} {ds gs:List (DataW H)} {before:List MemPlace} {tb:TypeId} {c:Code}
 (hW:DataW.Whole enc P fn.params.toList s.vars apart W vals ds gs before) (hvars:s.vars=[]) (hl:laidOutB P=true) (hr:∀ t∈fn.params.toList,P.readableRec t=true∧t<P.types.size)
 (hrt:fn.resultTypes= #[tb]) (htb:P.underlying tb=some .bool) (hspec:(s.fn H ds).results=[.lit (.bool true)]∧(s.fn H ds).args=ds∧(s.fn H ds).vars=[])
 (hf:Has P f fn c) {args:List PV} (hv:VRL tt [] (AllP W) vals args) (hg:GlW tt W) (h:FC P tt f [] args fun v _=>v= .bool true):
 Calls P f ⟨vals⟩ W fun e W'=>∃ v,e= .returned v∧s.post enc P fn apart fresh handsOn false W ⟨vals⟩ v W':=by
 have hlt:=hW.lt
 have hW0:=hW
 obtain ⟨p,q,hA,hV,rfl,hfz,hnd⟩:=hW
 rw [hvars] at hV
 obtain ⟨rfl,rfl⟩:=trodVars_none hV
 rw [List.append_nil] at hlt
 rcases h [] (AllQ W) W vals (AllQ.wr W hg) (hv.mono (fun _ _ h=>h) fun _ _ h=>.inl h) with ⟨_,hc⟩|⟨v,w',hc,_⟩
 ·refine hc.mono ?_
  rintro e W' ⟨v,E',Pp',objs',pv,rfl,_,_,_,hvr,rfl,hfr,_⟩
  cases hvr
  have hb:Go.RowKit.Below W.heap.size W W':=⟨hfr.os,hfr.tape,hfr.output,hfr.size,fun k hk=>hfr.block k hk own_nil⟩
  refine ⟨_,rfl,ds,[],_,[],p,[],hW0,?_,?_,?_,?_,fun h=>by cases h⟩
  ·rw [List.append_nil,hspec.1,hrt]
   exact trodAll_mk1 (Go.RowKit.shut_bool htb true)
  ·rw [List.append_nil,hspec.2.1]
   exact trodAll_stays hl hb hr hA hlt (fun x hx=>by simpa using hlt x hx)
  ·rw [List.append_nil,hspec.2.2,hvars];rfl
  ·refine ⟨hb.os,hb.output,fun i hi=> ?_⟩
   rw [hb.block i hi]
   exact (World.keptBut_refl W (fun x=>x∈p++[]∧(x∈[]∨x∈p∨x∈[]))).2.2 i hi
 ·rw [enter_run hf.f hf.b hf.name] at hc
  cases hc
end
end Go.VC
end

section
namespace Go.VC
open Go Go.Proofs Go.Shelf Go.RowKit
section
variable {P:Program} (w:World)
theorem liesAt_bytesO {e:TypeId} (hc:P.cellsOf e=1) (count o n:Nat) (hn:o+n≤count):liesAt P P.depth e count o e n=true:=by
 have hd:P.depth=(2*(P.types.size+Made.depth)+1)+1:=rfl
 rw [hd]
 simp only [liesAt,Bool.or_eq_true]
 left
 rw [hd]
 simp [rowAt,hc,hn,sameLayout,Nat.mod_one]
theorem run_unsafeString_rowO (pt it ty e:TypeId) (hp:P.underlying pt=some (.pointer e)) (hc:P.cellsOf e=1) (g o cells:Nat) (hsh:w.shape? g=some (e,cells)) (l:List UInt8) (h0:l≠[]) (hn:o+l.length≤cells) (h63:l.length≤9223372036854775807)
 (hcell:∀ j x,l[j]? =some x→w.cell? ((⟨g,o,none⟩:Addr).add j)=some (.int .u8 x.toNat)):
 (Builtin.unsafeString_ #[pt,it] ty #[.pointer (some ⟨g,o,none⟩),.int .i64 l.length]).run P w= .ok (.string ⟨l.toArray⟩) (w.freeze ⟨g,o,none⟩ l.length):=by
 have hl:l.length≠0:=by simpa using h0
 have hlb:=Lib.run_loadBytes (P:=P) w l ⟨g,o,none⟩ .empty hcell
 have hlies:=liesAt_bytesO (P:=P) hc (cells/P.cellsOf e) o l.length (by rw [hc];simpa using hn)
 have h63':¬(9223372036854775807:Int)<(l.length:Int):=by omega
 have hdef:Builtin.unsafeString_ #[pt,it] ty #[.pointer (some ⟨g,o,none⟩),.int .i64 l.length]=
  (do
    let n ←asInt (.int .i64 l.length)
    if n<0 then runtimePanic (.error "unsafe.String: len out of range")
    if n>IntKind.i64.max then unsupported (.unsafePointer "String: a length above the largest int")
    if n=0 then pure (.string .empty)
    else if ←variablesAt ⟨g,o,none⟩ (← elemOf pt) n.toNat then do
     let s ←loadBytes ⟨g,o,none⟩ .empty n.toNat
     freeze ⟨g,o,none⟩ n.toNat
     pure (.string s)
    else unsupported (.unsafePointer "String: not so many bytes at ptr")):=rfl
 rw [hdef]
 have hmax:IntKind.i64.max=9223372036854775807:=rfl
 have hneg:¬(l.length:Int)<0:=by omega
 simp [asInt,asIntOf,hmax,h63',hneg,hl,variablesAt,hsh,elemOf,run_underlying hp,hlies,hlb]
end
section
variable {P:Program} {ρ:Ren}
structure Only (g:Nat) (w w':World):Prop where
 os:w'.os=w.os
 tape:w'.tape=w.tape
 output:w'.output=w.output
 size:w.heap.size≤w'.heap.size
 drawn:w.drawn≤w'.drawn
 block:∀ k,k≠g→w'.heap[k]? =w.heap[k]?
theorem only_freeze (w:World) (g o n:Nat):Only g w (w.drew.freeze ⟨g,o,none⟩ n):=by
 have hd:Only g w w.drew:=⟨rfl,rfl,rfl,Nat.le_refl _,Nat.le_succ _,fun k hk=>rfl⟩
 generalize w.drew=w' at hd
 unfold World.freeze
 split
 ·exact hd
 ·exact ⟨hd.os,hd.tape,hd.output,by simpa using hd.size,hd.drawn,fun k hk=>by
   simp only [Array.getElem?_modify]
   rw [if_neg (fun e=>hk e.symm)]
   exact hd.block k hk⟩
theorem Bld_String (L:Lays.n169 P ρ) (X:Builder.Extra P ρ) (b g o cap:Nat) (p:Value) (cur:Array Value) (l:List UInt8) (w:World) (h0:l≠[]) (hcap:cap≠0) (h63:l.length≤9223372036854775807)
 (hbk:w.heap[b]? =some (.cells #[p,.slice (some ⟨g,o,none⟩) l.length cap] (ρ.t 72) (0,0))) (hg:w.heap[g]? =some (.cells cur (ρ.t 5) (0,0))) (hfit:o+l.length≤cur.size)
 (hcell:∀ (j:Nat) x,l[j]? =some x→cur[o+j]? =some (.int .u8 x.toNat)):
 Calls P (ρ.f 169) #[.pointer (some ⟨b,0,none⟩)] w fun e w'=>e= .returned (.string ⟨l.toArray⟩)∧Only g w w':=by
 have c1:w.drew.cell? ⟨b,1,none⟩=some (.slice (some ⟨g,o,none⟩) l.length cap):=by
  have:w.drew.heap[b]? =some (.cells #[p,.slice (some ⟨g,o,none⟩) l.length cap] (ρ.t 72) (0,0)):=hbk
  rw [Lib.cell_of_heap this];rfl
 have hSD:(Builtin.unsafeSliceData_ #[(ρ.t 37)] (ρ.t 127) #[.slice (some ⟨g,o,none⟩) l.length cap]).run P w.drew= .ok (.pointer (some ⟨g,o,none⟩)) w.drew:=
  Lib.run_unsafeSliceData_row _ _ _ _ _ _ hcap
 have hUS:(Builtin.unsafeString_ #[(ρ.t 127),(ρ.t 3)] (ρ.t 9) #[.pointer (some ⟨g,o,none⟩),.int .i64 l.length]).run P w.drew= .ok (.string ⟨l.toArray⟩) (w.drew.freeze ⟨g,o,none⟩ l.length):=by
  refine run_unsafeString_rowO w.drew (ρ.t 127) (ρ.t 3) (ρ.t 9) (ρ.t 5) L.t127 X.cellsByte g o cur.size (by have hg':w.drew.heap[g]? =some (.cells cur (ρ.t 5) (0,0)):=hg;simp [World.shape?,hg']) l h0 hfit h63 ?_
  intro j x hx
  have h1:=hcell j x hx
  have hg':w.drew.heap[g]? =some (.cells cur (ρ.t 5) (0,0)):=hg
  rw [Addr.add_lit]
  simp [World.cell?,hg',h1]
 have hOnly:=only_freeze w g o l.length
 clear hg hfit hcell h0 hbk
 have mixed:=L.mixed
 have t72:=L.t72;have a72:=L.a72;have z72:=L.z72;have v72:=L.v72;have u72:=run_underlying L.t72
 have t70:=L.t70;have a70:=L.a70;have z70:=L.z70;have v70:=L.v70;have u70:=run_underlying L.t70
 have t37:=L.t37;have a37:=L.a37;have z37:=L.z37;have v37:=L.v37;have u37:=run_underlying L.t37
 have t127:=L.t127;have a127:=L.a127;have z127:=L.z127;have v127:=L.v127;have u127:=run_underlying L.t127
 have t3:=L.t3;have a3:=L.a3;have z3:=L.z3;have v3:=L.v3;have u3:=run_underlying L.t3
 have t9:=L.t9;have a9:=L.a9;have z9:=L.z9;have v9:=L.v9;have u9:=run_underlying L.t9
 have t5:=X.t5;have a5:=X.a5;have z5:=X.z5;have v5:=X.v5;have u5:=run_underlying X.t5
 go_enter L.f169,Body.n169_ntmps ρ
 go_wp2
 go_region_o
 all_goals (go_wp2;go_ret;exact ⟨rfl,hOnly⟩)
end
def strRows (s:List UInt8):List (List D):=s.map fun c=>[.int (c.toNat:Int)]
theorem strRows_at {tt:TypeId→Option TI} {Pp:Per} {e:TypeId} (hck:cksOf tt e=[.int .u8]) {vs:List Value} {o:Nat} {s:List UInt8} (h:RowAt tt Pp e vs o (strRows s)):∀ (j:Nat) c,s[j]? =some c→vs[o+j]? =some (.int .u8 c.toNat):=by
 intro j c hc
 obtain ⟨_,h2⟩:=h j [.int (c.toNat:Int)] (by simp [strRows,hc])
 rw [hck] at h2
 obtain ⟨v,hv,hr⟩:=h2 0 (.int (c.toNat:Int)) (.int .u8) rfl rfl
 cases hr
 simpa using hv
section
variable {P:Program} {tt:TypeId→Option TI} {f:FuncId} {T e:TypeId}
theorem FC_String (hu:∀ t ti,tt t=some ti→ti.bld=true→t=T) (hck:cksOf tt e=[.int .u8])
 (hE:∀ args w,(callFunc f args).run P w= .ok (.enter f args) w)
 (hS:∀ (b g o cap:Nat) (p:Value) (cur:Array Value) (l:List UInt8) (w:World),l≠[]→cap≠0→l.length≤9223372036854775807→
   w.heap[b]? =some (.cells #[p,.slice (some ⟨g,o,none⟩) l.length cap] T (0,0))→w.heap[g]? =some (.cells cur e (0,0))→o+l.length≤cur.size→
   (∀ (j:Nat) x,l[j]? =some x→cur[o+j]? =some (.int .u8 x.toNat))→
   Calls P f #[.pointer (some ⟨b,0,none⟩)] w fun e w'=>e= .returned (.string ⟨l.toArray⟩)∧Only g w w')
 {s:List UInt8} (h0:s≠[]) (hl:s.length≤4294967296) {d:D} (hd:d= .list (strRows s)) {p:PV} (hp:ptrLike p=true) {K:PV→List Ob→Prop} (h:K (.str s) [.dead,.dead]):
 FC P tt f [.box [p,.row e 1],.row e d true] [.box 0 0] K:=by
 subst hd
 intro E Pp w vals hw hv
 cases hv with
 |cons v _ vs0 _ hv0 hv1=>
 cases hv1
 cases hv0 with
 |box _ _ _ blk hE1 hu1=>
 obtain rfl:=hu1.get rfl
 obtain ⟨ri1,hr1,hor1⟩:=hw.ob 0 _ rfl rfl
 rw [hE1] at hr1;cases hr1
 obtain ⟨vs1,T1,hb,hvs,hnp1,hbld⟩:=hor1
 obtain ⟨ti,h1,h2⟩:=hbld hp
 obtain rfl:=hu _ _ h1 h2
 cases hvs with
 |cons u0 _ us _ hu0 hu1=>
 cases hu1 with
 |cons u1 _ us2 _ hu1 hu2=>
 cases hu2
 obtain ⟨ri0,hr0,hor0⟩:=hw.ob 1 _ rfl rfl
 cases hu1 with
 |row0 _ _ hr=>
  rw [hr] at hr0;cases hr0
  simp only [OR,D.list.injEq] at hor0
  exact absurd (by simpa [strRows] using hor0) h0
 |row _ _ g o len cap hr=>
  rw [hr] at hr0;cases hr0
  obtain ⟨vs,_,rows,hg,hd,hlen,hcap,hsz,hrow,hnp,hfz⟩:=hor0
  cases hd
  have hlen':s.length=len:=by rw [← hlen,strRows,List.length_map]
  subst hlen'
  have hpos:0<s.length:=List.length_pos_iff.2 h0
  rw [hck] at hsz
  simp only [List.length_singleton,Nat.mul_one] at hsz
  have hnp:=hnp rfl
  have hown:own E [.box [p,.row e 1],.row e (.list (strRows s)) true] g:=⟨1,_,_,rfl,rfl,hr,rfl⟩
  refine .inl ⟨hE _ _,(hS blk g o cap u0 ⟨vs⟩ s w h0 (by omega) (by omega) hb hg (by show o+s.length≤vs.length;omega) (fun j x hx=>by simpa using strRows_at hck hrow j x hx)).mono ?_⟩
  rintro e' w' ⟨rfl,hO⟩
  have hpi:∀ ad v,Pp ad v→pc w' ad=some v:=fun ad v hpv=>by
   rw [pc_same (hO.block _ (hnp ad v hpv))];exact hw.pi ad v hpv
  have hdead:∀ (i:Nat) (ob:Ob),([.dead,.dead]:List Ob)[i]? =some ob→ob.live=true→False:=fun i ob hi hl=>by
   match i,hi with
   |0,hi=>simp at hi;subst hi;cases hl
   |1,hi=>simp at hi;subst hi;cases hl
   |i+2,hi=>simp at hi
  refine ⟨_,E,Pp,[.dead,.dead],.str s,rfl,.refl _,fun _ _ h=>h,⟨by have:=hw.len;simpa using this,hpi,fun i ob hi hl=>(hdead i ob hi hl).elim,fun i j oi oj ri rj b hi hj hl _ _ _ _ _=>(hdead i oi hi hl).elim,hw.gl⟩,?_,h,⟨hO.os,hO.tape,hO.output,hO.size,fun k _ hk=>hO.block k (fun e=>hk (e▸hown))⟩,fun _ _ h=>.inl h,fun i ob ri b hi hl=>(hdead i ob hi hl).elim⟩
  exact .str ⟨s.toArray⟩
theorem FC_copyCheck (hu:∀ t ti,tt t=some ti→ti.bld=true→t=T)
 (hE:∀ args w,(callFunc f args).run P w= .ok (.enter f args) w)
 (hUsed:∀ (b:Nat) (w:World),w.cell? ⟨b,0,none⟩=some (.pointer (some ⟨b,0,none⟩))→Calls P f #[.pointer (some ⟨b,0,none⟩)] w fun e w'=>e= .returned (.tuple #[])∧w'=w)
 (hFresh:∀ (b:Nat) (w:World),w.cell? ⟨b,0,none⟩=some (.pointer none)→w.shape? b=some (T,2)→w.frozen? ⟨b,0,none⟩=false→
   Calls P f #[.pointer (some ⟨b,0,none⟩)] w fun e w'=>e= .returned (.tuple #[])∧w'=w.setCell ⟨b,0,none⟩ (.pointer (some ⟨b,0,none⟩)))
 {d:D} {p:PV} (hp:p= .nilp∨p= .box 0 0) {K:PV→List Ob→Prop} (h:K (.tup []) [.box [.box 0 0,.row e 1],.row e d true]):
 FC P tt f [.box [p,.row e 1],.row e d true] [.box 0 0] K:=by
 intro E Pp w vals hw hv
 cases hv with
 |cons v _ vs0 _ hv0 hv1=>
 cases hv1
 cases hv0 with
 |box _ _ _ blk hE1 hu1=>
 obtain rfl:=hu1.get rfl
 obtain ⟨ri1,hr1,hor1⟩:=hw.ob 0 _ rfl rfl
 rw [hE1] at hr1;cases hr1
 obtain ⟨vs1,T1,hb,hvs,hnp1,hbld⟩:=hor1
 obtain ⟨ti,h1,h2⟩:=hbld (by rcases hp with rfl|rfl<;>rfl)
 obtain rfl:=hu _ _ h1 h2
 cases hvs with
 |cons u0 _ us _ hu0 hu1=>
 cases hu1 with
 |cons u1 _ us2 _ hu1 hu2=>
 cases hu2
 have hc0:w.cell? ⟨blk,0,none⟩=some u0:=by simp [World.cell?,hb]
 rcases hp with rfl|rfl
 ·cases hu0
  refine .inl ⟨hE _ _,(hFresh blk w hc0 (by simp [World.shape?,hb]) (by simp [World.frozen?,hb])).mono ?_⟩
  rintro e' w' ⟨rfl,rfl⟩
  have hb':(w.setCell ⟨blk,0,none⟩ (.pointer (some ⟨blk,0,none⟩))).heap[blk]? =some (.cells ⟨[.pointer (some ⟨blk,0,none⟩),u1]⟩ T1 (0,0)):=by
   simp [World.setCell,Array.getElem?_modify,hb]
  have hoth:∀ k,k≠blk→(w.setCell ⟨blk,0,none⟩ (.pointer (some ⟨blk,0,none⟩))).heap[k]? =w.heap[k]? :=fun k hk=>by
   simp only [World.setCell,Array.getElem?_modify]
   rw [if_neg (fun e=>hk e.symm)]
  have hown:own E [.box [.nilp,.row e 1],.row e d true] blk:=⟨0,_,_,rfl,rfl,hE1,rfl⟩
  have hW:WR tt E Pp [.box [.box 0 0,.row e 1],.row e d true] (w.setCell ⟨blk,0,none⟩ (.pointer (some ⟨blk,0,none⟩))):=by
   refine WR.turn hw (i:=0) (o:=.box [.nilp,.row e 1]) (o':=.box [.box 0 0,.row e 1]) (ri:=.box blk) (ri':=.box blk) rfl rfl hE1 rfl (fun _ _=>rfl) hE1 rfl ?_ rfl ?_ ?_ (fun _ _ h=>h) (fun _ _ h=>.inl h) (fun b hb=>.inl hb) ?_
   ·intro j oj' hj hoj hl
    match j,hoj with
    |1,hoj=>exact ⟨oj',hoj,hl,fun _ _ h=>h⟩
    |0,_=>exact absurd rfl hj
    |j+2,hoj=>simp at hoj
   ·intro _
    exact ⟨_,T1,hb',.cons _ _ _ _ (.box _ _ _ _ hE1 (.mk rfl)) (.cons _ _ _ _ hu1 .nil),hnp1,fun _=>⟨ti,h1,h2⟩⟩
   ·intro b _ hne
    exact hoth b (fun e=>hne (by rw [e];rfl))
   ·intro ad v hv
    rw [pc_same (hoth _ (hnp1 ad v hv))];exact hw.pi ad v hv
  refine ⟨_,E,Pp,_,.tup [],rfl,.refl _,fun _ _ h=>h,hW,.tup [] [] .nil,h,⟨rfl,rfl,rfl,by simp [World.setCell],fun k _ hk=>hoth k (fun e=>hk (e▸hown))⟩,fun _ _ h=>.inl h,?_⟩
  intro i o ri b ho hl hEi hbi
  match i,ho with
  |0,ho=>exact .inr ⟨0,_,ri,rfl,rfl,hEi,hbi⟩
  |1,ho=>exact .inr ⟨1,_,ri,rfl,rfl,hEi,hbi⟩
  |i+2,ho=>simp at ho
 ·cases hu0 with
  |box _ _ _ blk2 hE2 hu2=>
  obtain rfl:=hu2.get rfl
  rw [hE1] at hE2;cases hE2
  refine .inl ⟨hE _ _,(hUsed blk w hc0).mono ?_⟩
  rintro e' w' ⟨rfl,rfl⟩
  refine ⟨_,E,Pp,[.box [.box 0 0,.row e 1],.row e d true],.tup [],rfl,.refl _,fun _ _ h=>h,hw,.tup [] [] .nil,h,Fr.refl _ _,fun _ _ h=>.inl h,?_⟩
  intro i o ri b ho hl hEi hbi
  exact .inr ⟨i,o,ri,ho,hl,hEi,hbi⟩
end
end Go.VC
end

section
namespace Go.VC
open Go
noncomputable section
class Sd (p:Prop) where
 b:Bool
 h:b=true→p
class SdC (C:CallP) where
 c:∀ (w:Who) (o:List Ob) (a:List PV) (K:PV→List Ob→Prop),(∀ v o',Sd (K v o'))→Sd (C w o a K)
mutual
def eqD:D→D→Bool
 | .int a,.int b=>decide (a=b)
 | .bool a,.bool b=>match a,b with|true,true=>true|false,false=>true|_,_=>false
 | .str a,.str b=>decide (a=b)
 | .list a,.list b=>eqDss a b
 | .nil,.nil=>true
 | .ptr a,.ptr b=>eqDs a b
 |_,_=>false
def eqDs:List D→List D→Bool
 |[],[]=>true
 |a::x,b::y=>match eqD a b with|true=>eqDs x y|false=>false
 |_,_=>false
def eqDss:List (List D)→List (List D)→Bool
 |[],[]=>true
 |a::x,b::y=>match eqDs a b with|true=>eqDss x y|false=>false
 |_,_=>false
end
mutual
theorem eqD_ok:∀ {a b:D},eqD a b=true→a=b
 | .int a,b,h=>by cases b<;>simp [eqD] at h;rw [h]
 | .bool a,b,h=>by cases b<;>simp [eqD] at h;rename_i c;cases a<;>cases c<;>simp_all
 | .str a,b,h=>by cases b<;>simp [eqD] at h;rw [h]
 | .list a,b,h=>by cases b<;>simp [eqD] at h;rw [eqDss_ok h]
 | .nil,b,h=>by cases b<;>simp [eqD] at h;rfl
 | .ptr a,b,h=>by cases b<;>simp [eqD] at h;rw [eqDs_ok h]
theorem eqDs_ok:∀ {a b:List D},eqDs a b=true→a=b
 |[],b,h=>by cases b<;>simp [eqDs] at h;rfl
 |a::x,b,h=>by
  cases b with
  |nil=>simp [eqDs] at h
  |cons b y=>
   rw [eqDs] at h
   split at h
   ·rename_i h1;rw [eqD_ok h1,eqDs_ok h]
   ·cases h
theorem eqDss_ok:∀ {a b:List (List D)},eqDss a b=true→a=b
 |[],b,h=>by cases b<;>simp [eqDss] at h;rfl
 |a::x,b,h=>by
  cases b with
  |nil=>simp [eqDss] at h
  |cons b y=>
   rw [eqDss] at h
   split at h
   ·rename_i h1;rw [eqDs_ok h1,eqDss_ok h]
   ·cases h
end
mutual
def eqP:PV→PV→Bool
 | .undef,.undef=>true
 | .int k a,.int k' b=>kEq k k'&&decide (a=b)
 | .bl a,.bl b=>bEq a b
 | .bool a,.bool b=>bEq a b
 | .str a,.str b=>decide (a=b)
 | .lst e d,.lst e' d'=>nb e e'&&eqD d d'
 | .lsf e d,.lsf e' d'=>nb e e'&&eqD d d'
 | .agg a,.agg b=>eqPs a b
 | .tup a,.tup b=>eqPs a b
 | .box b o,.box b' o'=>nb b b'&&nb o o'
 | .row e r,.row e' r'=>nb e e'&&nb r r'
 | .rptr e r i o,.rptr e' r' i' o'=>nb e e'&&nb r r'&&decide (i=i')&&nb o o'
 | .eptr e d i o,.eptr e' d' i' o'=>nb e e'&&eqD d d'&&decide (i=i')&&nb o o'
 | .pptr a o,.pptr b o'=>eqPs a b&&nb o o'
 | .dptr t d,.dptr t' d'=>nb t t'&&eqD d d'
 | .dpp t d o,.dpp t' d' o'=>nb t t'&&eqD d d'&&nb o o'
 | .clos f a,.clos f' b=>nb f f'&&eqPs a b
 | .nilp,.nilp=>true
 | .nilm,.nilm=>true
 | .nilf,.nilf=>true
 | .nils,.nils=>true
 | .mp m,.mp m'=>nb m m'
 | .dmp e d,.dmp e' d'=>nb e e'&&eqD d d'
 | .it i,.it j=>nb i j
 | .yld i,.yld j=>nb i j
 |_,_=>false
def eqPs:List PV→List PV→Bool
 |[],[]=>true
 |a::x,b::y=>match eqP a b with|true=>eqPs x y|false=>false
 |_,_=>false
end
mutual
theorem eqP_ok:∀ {a b:PV},eqP a b=true→a=b
 | .agg a,b,h=>by cases b<;>simp [eqP] at h;rw [eqPs_ok h]
 | .tup a,b,h=>by cases b<;>simp [eqP] at h;rw [eqPs_ok h]
 | .pptr a o,b,h=>by cases b<;>simp [eqP] at h;rw [eqPs_ok h.1,h.2]
 | .clos f a,b,h=>by cases b<;>simp [eqP] at h;rw [h.1,eqPs_ok h.2]
 | .lst e d,b,h=>by cases b<;>simp [eqP] at h;rw [h.1,eqD_ok h.2]
 | .lsf e d,b,h=>by cases b<;>simp [eqP] at h;rw [h.1,eqD_ok h.2]
 | .dptr e d,b,h=>by cases b<;>simp [eqP] at h;rw [h.1,eqD_ok h.2]
 | .dmp e d,b,h=>by cases b<;>simp [eqP] at h;rw [h.1,eqD_ok h.2]
 | .dpp e d o,b,h=>by cases b<;>simp [eqP] at h;rw [h.1.1,eqD_ok h.1.2,h.2]
 | .eptr e d i o,b,h=>by cases b<;>simp [eqP] at h;rw [h.1.1.1,eqD_ok h.1.1.2,h.1.2,h.2]
 | .int k a,b,h=>by cases b<;>simp [eqP,kEq] at h;rw [h.1,h.2]
 | .bl a,b,h=>by cases b<;>simp [eqP,bEq_eq] at h;rw [h]
 | .bool a,b,h=>by cases b<;>simp [eqP,bEq_eq] at h;rw [h]
 | .str a,b,h=>by cases b<;>simp [eqP] at h;rw [h]
 | .box a o,b,h=>by cases b<;>simp [eqP] at h;rw [h.1,h.2]
 | .row a o,b,h=>by cases b<;>simp [eqP] at h;rw [h.1,h.2]
 | .rptr e r i o,b,h=>by cases b<;>simp [eqP] at h;rw [h.1.1.1,h.1.1.2,h.1.2,h.2]
 | .mp m,b,h=>by cases b<;>simp [eqP] at h;rw [h]
 | .it m,b,h=>by cases b<;>simp [eqP] at h;rw [h]
 | .yld m,b,h=>by cases b<;>simp [eqP] at h;rw [h]
 | .undef,b,h=>by cases b<;>simp [eqP] at h;rfl
 | .nilp,b,h=>by cases b<;>simp [eqP] at h;rfl
 | .nilm,b,h=>by cases b<;>simp [eqP] at h;rfl
 | .nilf,b,h=>by cases b<;>simp [eqP] at h;rfl
 | .nils,b,h=>by cases b<;>simp [eqP] at h;rfl
theorem eqPs_ok:∀ {a b:List PV},eqPs a b=true→a=b
 |[],b,h=>by cases b<;>simp [eqPs] at h;rfl
 |a::x,b,h=>by
  cases b with
  |nil=>simp [eqPs] at h
  |cons b y=>
   rw [eqPs] at h
   split at h
   ·rename_i h1;rw [eqP_ok h1,eqPs_ok h]
   ·cases h
end
def eqO:Ob→Ob→Bool
 | .box a,.box b=>eqPs a b
 | .row e d w,.row e' d' w'=>nb e e'&&eqD d d'&&bEq w w'
 | .map k e d,.map k' e' d'=>decide (k=k')&&nb e e'&&eqD d d'
 | .iter m d,.iter m' d'=>nb m m'&&eqD d d'
 | .diter e d s,.diter e' d' s'=>nb e e'&&eqD d d'&&eqD s s'
 | .dead,.dead=>true
 |_,_=>false
theorem eqO_ok {a b:Ob} (h:eqO a b=true):a=b:=by
 cases a<;>cases b<;>simp [eqO,bEq_eq] at h
 ·rw [eqPs_ok h]
 ·rw [h.1.1,eqD_ok h.1.2,h.2]
 ·rw [h.1.1,h.1.2,eqD_ok h.2]
 ·rw [h.1,eqD_ok h.2]
 ·rw [h.1.1,eqD_ok h.1.2,eqD_ok h.2]
 ·rfl
def eqOs:List Ob→List Ob→Bool
 |[],[]=>true
 |a::x,b::y=>match eqO a b with|true=>eqOs x y|false=>false
 |_,_=>false
theorem eqOs_ok:∀ {a b:List Ob},eqOs a b=true→a=b
 |[],b,h=>by cases b<;>simp [eqOs] at h;rfl
 |a::x,b,h=>by
  cases b with
  |nil=>simp [eqOs] at h
  |cons b y=>
   rw [eqOs] at h
   split at h
   ·rename_i h1;rw [eqO_ok h1,eqOs_ok h]
   ·cases h
def eqS (s1 s2:Slots):Slots→Bool
 |[]=>true
 |(t,_)::l=>match eqP (look s1 t) (look s2 t) with|true=>eqS s1 s2 l|false=>false
theorem eqS_ok {s1 s2:Slots}:∀ {l:Slots},eqS s1 s2 l=true→∀ t p,(t,p)∈l→look s1 t=look s2 t
 |[],_,t,p,h=>by simp at h
 |(u,q)::l,h,t,p,hm=>by
  rw [eqS] at h
  split at h
  ·rename_i h1
   rcases List.mem_cons.1 hm with e|hm
   ·cases e;exact eqP_ok h1
   ·exact eqS_ok h t p hm
  ·cases h
theorem look_none:∀ {s:Slots} {t:Nat},(∀ p,(t,p)∉s)→look s t= .undef
 |[],_,_=>rfl
 |(k,v)::s,t,h=>by
  rw [look_cons,if_neg (fun e=>h v (by simp [e]))]
  exact look_none fun p hp=>h p (by simp [hp])
def eqSt (s1 s2:St):Bool:=match eqOs s1.o s2.o with|true=>eqS s1.s s2.s s1.s&&eqS s1.s s2.s s2.s|false=>false
theorem eqSt_ok {s1 s2:St} (h:eqSt s1 s2=true):(∀ t,look s1.s t=look s2.s t)∧s1.o=s2.o:=by
 unfold eqSt at h
 split at h
 ·rename_i ho
  rw [Bool.and_eq_true] at h
  refine ⟨fun t=> ?_,eqOs_ok ho⟩
  by_cases h1:∃ p,(t,p)∈s1.s
  ·exact eqS_ok h.1 t _ h1.choose_spec
  by_cases h2:∃ p,(t,p)∈s2.s
  ·exact eqS_ok h.2 t _ h2.choose_spec
  rw [look_none (fun p hp=>h1 ⟨p,hp⟩),look_none (fun p hp=>h2 ⟨p,hp⟩)]
 ·cases h
def swpL (i j n:Nat):List Nat:=(List.range n).map fun k=>match nb k i,nb k j with|true,_=>j|false,true=>i|false,false=>k
def tryL (f:Nat→Nat→Bool) (lo n:Nat):Bool:=anyL (fun i=>anyL (fun j=>match nle (lo+i+1) (lo+j) with|true=>f (lo+i) (lo+j)|false=>false) (List.range (n-lo))) (List.range (n-lo))
def sameB (n0:Nat) (s1 s2:St):Bool:=match eqSt s1 s2 with
 |true=>true
 |false=>tryL (fun i j=>match nodupL (swpL i j (lenL s2.o))&&upTo n0 0 (swpL i j (lenL s2.o)) with|true=>eqSt s1 (pickSt (swpL i j (lenL s2.o)) s2)|false=>false) n0 (lenL s2.o)
theorem sameSt_ok {n0:Nat} {s1 s2:St} (h:sameB n0 s1 s2=true):sameSt n0 s1 s2:=by
 unfold sameB at h
 split at h
 ·rename_i h1;exact ⟨s2,.inl rfl,eqSt_ok h1⟩
 ·unfold tryL at h
  rw [anyL_eq] at h
  obtain ⟨i,_,h⟩:=List.any_eq_true.1 h
  rw [anyL_eq] at h
  obtain ⟨j,_,h⟩:=List.any_eq_true.1 h
  split at h
  ·dsimp only at h
   split at h
   ·rename_i h2;exact ⟨_,.inr ⟨_,h2,rfl⟩,eqSt_ok h⟩
   ·cases h
  ·cases h
namespace Sd
instance (priority:=low) sdCall {C:CallP} [h:SdC C] {w:Who} {o:List Ob} {a:List PV} {K:PV→List Ob→Prop} [hK:∀ v o',Sd (K v o')]:Sd (C w o a K):=h.c w o a K hK
instance:Sd False:=⟨false,fun h=>by cases h⟩
instance:Sd True:=⟨true,fun _=>trivial⟩
instance sdAnd {p q:Prop} [x:Sd p] [y:Sd q]:Sd (p∧q):=⟨x.b&&y.b,fun h=>by rw [Bool.and_eq_true] at h;exact ⟨x.h h.1,y.h h.2⟩⟩
instance {p q:Prop} [x:Sd p] [y:Sd q]:Sd (p∨q):=⟨x.b||y.b,fun h=>by rw [Bool.or_eq_true] at h;exact h.imp x.h y.h⟩
instance {p:Prop} [x:Sd p]:Sd (True→p):=⟨x.b,fun h _=>x.h h⟩
instance {c d:Bool} {p:Prop} [x:Sd p]:Sd (c=d→p):=⟨match decEq c d with|isTrue _=>x.b|isFalse _=>true,fun h e=>by subst e;cases c<;>exact x.h h⟩
instance sdBif {c:Bool} {p q:Prop} [x:Sd p] [y:Sd q]:Sd (bif c then p else q):=⟨match c with|true=>x.b|false=>y.b,fun h=>by cases c;exact y.h h;exact x.h h⟩
instance {q:Bool→Prop} [x:∀ b,Sd (q b)]:Sd (∀ b,q b):=⟨(x true).b&&(x false).b,fun h b=>by rw [Bool.and_eq_true] at h;cases b;exact (x false).h h.2;exact (x true).h h.1⟩
@[reducible] def dec (p:Prop) [Decidable p]:Sd p:=⟨decide p,of_decide_eq_true⟩
instance {k:IntKind} {n:Int}:Sd (Std.inr k n):=by unfold Std std;exact dec _
instance (priority:=2000) {k:IntKind} {n:Int} {p q:Prop} [x:Sd p] [y:Sd q]:Sd ((Std.inr k n∧(True→p))∨(True→q)):=⟨match (inferInstance:Sd (Std.inr k n)).b with|true=>x.b|false=>y.b,fun h=>by
 split at h
 ·rename_i e;exact .inl ⟨(inferInstance:Sd (Std.inr k n)).h e,fun _=>x.h h⟩
 ·exact .inr fun _=>y.h h⟩
instance {k n:Int}:Sd (Std.idx k n):=by unfold Std std;exact dec _
instance {k n:Int}:Sd (Std.bnd k n):=by unfold Std std;exact dec _
instance {n:Int}:Sd (Std.ne0 n):=by unfold Std std;exact dec _
instance {k n:Int} {p:Prop} [x:Sd p]:Sd (Std.same k n→p):=⟨x.b,fun h _=>x.h h⟩
theorem same_iff {a b:Int} (h:Std.same a b):a=b:=by unfold Std std at h;exact h
instance {c:Bool} {k n:Int} {p:Prop} [x:Sd p]:Sd ((c=true→Std.same k n)→p):=⟨match c&& !decide (k=n) with|true=>true|false=>x.b,fun h g=>by
 split at h
 ·rename_i e;simp only [Bool.and_eq_true,Bool.not_eq_true',decide_eq_false_iff_not] at e;exact absurd (same_iff (g e.1)) e.2
 ·exact x.h h⟩
instance (a b:Bool):Sd (a=b):=dec _
instance {a b:Int}:Sd (Std.same a b):=by unfold Std std;exact dec _
def seenB (s:D) (j:Int):Bool:=(rowsD s).any fun r=>match r with|[.int k]=>decide (k=j)|_=>false
theorem seenB_iff {s:D} {j:Int}:seenB s j=true↔[.int j]∈rowsD s:=by
 unfold seenB
 rw [List.any_eq_true]
 constructor
 ·rintro ⟨r,hr,h⟩
  split at h
  ·rw [← of_decide_eq_true h];exact hr
  ·cases h
 ·intro h;exact ⟨_,h,by simp⟩
instance {d s:D} {p:Prop} [x:Sd p]:Sd (Std.allSeen d s→p):=⟨match (List.range (rowsD d).length).all fun j=>seenB s j with|true=>x.b|false=>true,fun h g=>by
 have g:∀ j:Nat,j<(rowsD d).length→[.int (j:Int)]∈rowsD s:=g
 have e:((List.range (rowsD d).length).all fun j=>seenB s j)=true:=List.all_eq_true.2 fun j hj=>seenB_iff.2 (g j (List.mem_range.1 hj))
 rw [e] at h
 exact x.h h⟩
instance {d s:D} {p:Int→Prop} [x:∀ j,Sd (p j)]:Sd (∀ j,Std.unseen d s j→p j):=⟨(List.range (rowsD d).length).all fun i=>match seenB s i with|true=>true|false=>(x i).b,fun h j hj=>by
 have hj:0≤j∧j<((rowsD d).length:Int)∧[.int j]∉rowsD s:=hj
 obtain ⟨k,rfl⟩:=Int.eq_ofNat_of_zero_le hj.1
 have h:=List.all_eq_true.1 h k (List.mem_range.2 (by omega))
 split at h
 ·rename_i e;exact absurd (seenB_iff.1 e) hj.2.2
 ·exact (x k).h h⟩
section
variable {tt:TypeId→Option TI} {K:PV→Prop} [hK:∀ v,Sd (K v)]
instance {op:BinOp} {e:Bool}:Sd (binB Std op e K):=by delta binB;split<;>infer_instance
instance {op:BinOp} {e:Bool}:Sd (binL op e K):=by delta binL;split<;>infer_instance
instance {o:Option TI} {op:BinOp} {b:Bool}:Sd (binBool Std o op b K):=by delta binBool;split<;>infer_instance
instance {op:BinOp} {k:IntKind} {a b:Int}:Sd (binI Std op k a b K):=by delta binI;split<;>infer_instance
instance {op:BinOp} {a b:List UInt8}:Sd (binS Std op a b K):=by delta binS;split<;>infer_instance
instance {s:Slots} {o:Option Operand} {d:Int} {K:Int→Prop} [∀ v,Sd (K v)]:Sd (optI s o d K):=by delta optI;(repeat' split)<;>infer_instance
section
variable {ty:TypeId} {s:Slots} {ob:List Ob}
@[reducible] def p_move {x}:Sd (pureOp Std tt (.move x) ty s ob K):=by
 delta pureOp;try dsimp only
 (repeat' split)<;>first|infer_instance|exact ⟨false,fun h=>by cases h⟩
@[reducible] def p_assign {x}:Sd (pureOp Std tt (.assign x) ty s ob K):=by
 delta pureOp;try dsimp only
 (repeat' split)<;>first|infer_instance|exact ⟨false,fun h=>by cases h⟩
@[reducible] def p_pick {c a b}:Sd (pureOp Std tt (.pick c a b) ty s ob K):=by
 delta pureOp;try dsimp only
 (repeat' split)<;>first|infer_instance|exact ⟨false,fun h=>by cases h⟩
@[reducible] def p_load {t x}:Sd (pureOp Std tt (.load t x) ty s ob K):=by
 delta pureOp;try dsimp only
 (repeat' split)<;>first|infer_instance|exact ⟨false,fun h=>by cases h⟩
@[reducible] def p_nilCheck {x}:Sd (pureOp Std tt (.nilCheck x) ty s ob K):=by
 delta pureOp;try dsimp only
 (repeat' split)<;>first|infer_instance|exact ⟨false,fun h=>by cases h⟩
@[reducible] def p_binOp {op t x y z}:Sd (pureOp Std tt (.binOp op t x y z) ty s ob K):=by
 delta pureOp;try dsimp only
 (repeat' split)<;>first|infer_instance|exact ⟨false,fun h=>by cases h⟩
@[reducible] def p_unOp {op t x}:Sd (pureOp Std tt (.unOp op t x) ty s ob K):=by
 delta pureOp;try dsimp only
 (repeat' split)<;>first|infer_instance|exact ⟨false,fun h=>by cases h⟩
@[reducible] def p_convert {a b x}:Sd (pureOp Std tt (.convert a b x) ty s ob K):=by
 delta pureOp;try dsimp only
 (repeat' split)<;>first|infer_instance|exact ⟨false,fun h=>by cases h⟩
@[reducible] def p_fieldAddr {t x f}:Sd (pureOp Std tt (.fieldAddr t x f) ty s ob K):=by
 delta pureOp;try dsimp only
 (repeat' split)<;>first|infer_instance|exact ⟨false,fun h=>by cases h⟩
@[reducible] def p_field {t x f}:Sd (pureOp Std tt (.field t x f) ty s ob K):=by
 delta pureOp;try dsimp only
 (repeat' split)<;>first|infer_instance|exact ⟨false,fun h=>by cases h⟩
@[reducible] def p_indexAddr {t x i}:Sd (pureOp Std tt (.indexAddr t x i) ty s ob K):=by
 delta pureOp;try dsimp only
 (repeat' split)<;>first|infer_instance|exact ⟨false,fun h=>by cases h⟩
@[reducible] def p_index {t x i}:Sd (pureOp Std tt (.index t x i) ty s ob K):=by
 delta pureOp;try dsimp only
 (repeat' split)<;>first|infer_instance|exact ⟨false,fun h=>by cases h⟩
@[reducible] def p_build {t ps}:Sd (pureOp Std tt (.build t ps) ty s ob K):=by
 delta pureOp;try dsimp only
 (repeat' split)<;>first|infer_instance|exact ⟨false,fun h=>by cases h⟩
@[reducible] def p_extract {x n}:Sd (pureOp Std tt (.extract x n) ty s ob K):=by
 delta pureOp;try dsimp only
 (repeat' split)<;>first|infer_instance|exact ⟨false,fun h=>by cases h⟩
@[reducible] def p_slice {t x lo hi mx}:Sd (pureOp Std tt (.slice t x lo hi mx) ty s ob K):=by
 delta pureOp;try dsimp only
 (repeat' split)<;>first|infer_instance|exact ⟨false,fun h=>by cases h⟩
@[reducible] def p_makeFunc {f a b}:Sd (pureOp Std tt (.makeFunc f a b) ty s ob K):=by
 delta pureOp;try dsimp only
 (repeat' split)<;>first|infer_instance|exact ⟨false,fun h=>by cases h⟩
@[reducible] def p_buildSlice {t n ps}:Sd (pureOp Std tt (.buildSlice t n ps) ty s ob K):=by
 delta pureOp;try dsimp only
 (repeat' split)<;>first|infer_instance|exact ⟨false,fun h=>by cases h⟩
@[reducible] def p_call {i}:Sd (pureOp Std tt (.call i) ty s ob K):=by
 delta pureOp;try dsimp only
 (repeat' split)<;>first|infer_instance|exact ⟨false,fun h=>by cases h⟩
end
instance sdPure {op:Op} {ty:TypeId} {s:Slots} {ob:List Ob}:Sd (pureOp Std tt op ty s ob K):=match op with
 | .move _=>p_move
 | .assign _=>p_assign
 | .pick _ _ _=>p_pick
 | .load _ _=>p_load
 | .nilCheck _=>p_nilCheck
 | .binOp _ _ _ _ _=>p_binOp
 | .unOp _ _ _=>p_unOp
 | .convert _ _ _=>p_convert
 | .fieldAddr _ _ _=>p_fieldAddr
 | .field _ _ _=>p_field
 | .indexAddr _ _ _=>p_indexAddr
 | .index _ _ _=>p_index
 | .build _ _=>p_build
 | .extract _ _=>p_extract
 | .slice _ _ _ _ _=>p_slice
 | .makeFunc _ _ _=>p_makeFunc
 | .buildSlice _ _ _=>p_buildSlice
 | .call _=>p_call
 |_=>⟨false,fun h=>by cases h⟩
end
section
variable {G:Cfg} {C:CallP} [hC:SdC C]
section
variable {K:PV→St→Prop} [hK:∀ v s,Sd (K v s)]
instance sdl2 {f:Who} {args:List PV} {s:Slots} {o1:List Ob} {F:List Nat}:Sd (liveC2 C f args s o1 F K):=by delta liveC2;infer_instance
instance {f:Who} {args:List PV} {s:Slots} {o1:List Ob}:Sd (liveC1 C f args s o1 K):=by delta liveC1;infer_instance
instance {f:FuncId} {args:List PV} {st:St}:Sd (liveC G C f args st K):=by delta liveC;split<;>infer_instance
instance {kp:Bool} {f:FuncId} {args:List PV} {st:St}:Sd (callC G C kp f args st K):=by
 delta callC
 split
 ·infer_instance
 split
 ·(repeat' split)<;>first|infer_instance|(refine @sdBif _ _ _ (sdCall (hK:=fun v o'=> ?_)) inferInstance;(repeat' split)<;>first|infer_instance|exact ⟨false,fun h=>by cases h⟩)|exact ⟨false,fun h=>by cases h⟩
 ·have:∀ v o',Sd (bif allL goesO o' then (match plain 8 v with|true=>K v st|false=>(match memL f G.frs&&flatRow G.tt v o' with|true=>K (ren (fun i=>lenL st.o+i) 8 v) ⟨st.s,appL st.o o'⟩|false=>K (ren (fun i=>lenL st.o+i) 8 v) ⟨hurtS (catL (ids st.o 8) args) st.o st.s,appL (hurtO (catL (ids st.o 8) args) 0 st.o) o'⟩)) else False):=fun v o'=>by
   have:Sd (match plain 8 v with|true=>K v st|false=>(match memL f G.frs&&flatRow G.tt v o' with|true=>K (ren (fun i=>lenL st.o+i) 8 v) ⟨st.s,appL st.o o'⟩|false=>K (ren (fun i=>lenL st.o+i) 8 v) ⟨hurtS (catL (ids st.o 8) args) st.o st.s,appL (hurtO (catL (ids st.o 8) args) 0 st.o) o'⟩)):=by (repeat' split)<;>infer_instance
   infer_instance
  infer_instance
instance {i:Nat} {args:List PV} {st:St}:Sd (yldC C i args st K):=by
 delta yldC
 split
 ·delta yldC.liveY;infer_instance
 ·infer_instance
instance {ob:List Ob} {p:PV} {K:TypeId→D→Prop} [∀ e d,Sd (K e d)]:Sd (srcD ob p K):=by
 delta srcD
 (repeat' split)<;>first|infer_instance|exact ⟨false,fun h=>by cases h⟩
instance {t:TypeId} {m k x:Operand} {st:St} {K:St→Prop} [∀ s,Sd (K s)]:Sd (mapPut0 Std G t m k x st K):=by
 delta mapPut0
 (repeat' split)<;>first|infer_instance|exact ⟨false,fun h=>by cases h⟩
instance {t:TypeId} {m k x:Operand} {st:St} {K:St→Prop} [∀ s,Sd (K s)]:Sd (mapPut Std G t m k x st K):=by
 delta mapPut
 (repeat' split)<;>first|infer_instance|exact ⟨false,fun h=>by cases h⟩
instance {t:TypeId} {m k:Operand} {st:St} {K:St→Prop} [∀ s,Sd (K s)]:Sd (mapDel Std G t m k st K):=by
 delta mapDel
 (repeat' split)<;>first|infer_instance|exact ⟨false,fun h=>by cases h⟩
instance {d kd:D} {k1 k2:D→Prop} [∀ d,Sd (k1 d)] [∀ d,Sd (k2 d)]:Sd (lkup Std d kd k1 k2):=by delta lkup;infer_instance
instance {kd:D} {k:D→Prop} [∀ d,Sd (k d)]:Sd (lkup1 kd k):=by delta lkup1;infer_instance
instance {e:TypeId} {x:PV} {d2:D} {st:St} {o:Oper}:Sd (appTo Std G e x d2 st o K):=by
 delta appTo
 (repeat' split)<;>first|infer_instance|exact ⟨false,fun h=>by cases h⟩
section
variable {dst:Option Nat} {ty:TypeId} {pos:String} {aft:Array Edge} {gd:Option (Nat×Bool)} {st:St}
@[reducible] def s_alloc {t}:Sd (stepC Std G C ⟨dst,.alloc t,ty,pos,aft,gd⟩ st K):=by
 delta stepC
 try dsimp only
 (repeat' split)<;>first|infer_instance|exact ⟨false,fun h=>by cases h⟩
@[reducible] def s_box {t x}:Sd (stepC Std G C ⟨dst,.box t x,ty,pos,aft,gd⟩ st K):=by
 delta stepC
 try dsimp only
 (repeat' split)<;>first|infer_instance|exact ⟨false,fun h=>by cases h⟩
@[reducible] def s_store {t x y}:Sd (stepC Std G C ⟨dst,.store t x y,ty,pos,aft,gd⟩ st K):=by
 delta stepC
 try dsimp only
 (repeat' split)<;>first|infer_instance|exact ⟨false,fun h=>by cases h⟩
@[reducible] def s_buildSlice {t n ps}:Sd (stepC Std G C ⟨dst,.buildSlice t n ps,ty,pos,aft,gd⟩ st K):=by
 delta stepC
 try dsimp only
 (repeat' split)<;>first|infer_instance|exact ⟨false,fun h=>by cases h⟩
@[reducible] def s_assign {x}:Sd (stepC Std G C ⟨dst,.assign x,ty,pos,aft,gd⟩ st K):=by
 delta stepC
 try dsimp only
 (repeat' split)<;>first|infer_instance|exact ⟨false,fun h=>by cases h⟩
@[reducible] def s_move {x}:Sd (stepC Std G C ⟨dst,.move x,ty,pos,aft,gd⟩ st K):=by
 delta stepC
 try dsimp only
 (repeat' split)<;>first|infer_instance|exact p_move|exact ⟨false,fun h=>by cases h⟩
@[reducible] def s_build {t ps}:Sd (stepC Std G C ⟨dst,.build t ps,ty,pos,aft,gd⟩ st K):=by
 delta stepC
 try dsimp only
 (repeat' split)<;>first|infer_instance|exact ⟨false,fun h=>by cases h⟩
@[reducible] def s_slice {t x lo hi mx}:Sd (stepC Std G C ⟨dst,.slice t x lo hi mx,ty,pos,aft,gd⟩ st K):=by
 delta stepC
 try dsimp only
 (repeat' split)<;>first|infer_instance|exact ⟨false,fun h=>by cases h⟩
@[reducible] def s_makeMap {t x}:Sd (stepC Std G C ⟨dst,.makeMap t x,ty,pos,aft,gd⟩ st K):=by
 delta stepC
 try dsimp only
 (repeat' split)<;>first|infer_instance|exact ⟨false,fun h=>by cases h⟩
@[reducible] def s_lookup {t m k ok}:Sd (stepC Std G C ⟨dst,.lookup t m k ok,ty,pos,aft,gd⟩ st K):=by
 delta stepC
 try dsimp only
 (repeat' split)<;>first|infer_instance|exact ⟨false,fun h=>by cases h⟩
@[reducible] def s_mapUpdate {t m k x}:Sd (stepC Std G C ⟨dst,.mapUpdate t m k x,ty,pos,aft,gd⟩ st K):=by
 delta stepC
 try dsimp only
 (repeat' split)<;>first|infer_instance|exact ⟨false,fun h=>by cases h⟩
@[reducible] def s_insert {t m k x}:Sd (stepC Std G C ⟨dst,.insert t m k x,ty,pos,aft,gd⟩ st K):=by
 delta stepC
 try dsimp only
 (repeat' split)<;>first|infer_instance|exact ⟨false,fun h=>by cases h⟩
@[reducible] def s_call {i}:Sd (stepC Std G C ⟨dst,.call i,ty,pos,aft,gd⟩ st K):=by
 delta stepC
 try dsimp only
 (repeat' split)<;>first|infer_instance|exact ⟨false,fun h=>by cases h⟩
@[reducible] def s_range {t m}:Sd (stepC Std G C ⟨dst,.range t m,ty,pos,aft,gd⟩ st K):=by
 delta stepC
 try dsimp only
 (repeat' split)<;>first|infer_instance|exact ⟨false,fun h=>by cases h⟩
@[reducible] def s_next {it str}:Sd (stepC Std G C ⟨dst,.next it str,ty,pos,aft,gd⟩ st K):=by
 delta stepC
 try dsimp only
 (repeat' split)<;>first|infer_instance|exact ⟨false,fun h=>by cases h⟩
@[reducible] def s_entry {it}:Sd (stepC Std G C ⟨dst,.entry it,ty,pos,aft,gd⟩ st K):=by
 delta stepC
 try dsimp only
 (repeat' split)<;>first|infer_instance|exact ⟨false,fun h=>by cases h⟩
@[reducible] def s_makeSlice {t x y}:Sd (stepC Std G C ⟨dst,.makeSlice t x y,ty,pos,aft,gd⟩ st K):=by
 delta stepC
 try dsimp only
 (repeat' split)<;>first|infer_instance|exact ⟨false,fun h=>by cases h⟩
end
instance sdStep {o:Oper} {st:St}:Sd (stepC Std G C o st K):=match o with
 |⟨_,.alloc _,_,_,_,_⟩=>s_alloc
 |⟨_,.box _ _,_,_,_,_⟩=>s_box
 |⟨_,.store _ _ _,_,_,_,_⟩=>s_store
 |⟨_,.buildSlice _ _ _,_,_,_,_⟩=>s_buildSlice
 |⟨_,.assign _,_,_,_,_⟩=>s_assign
 |⟨_,.build _ _,_,_,_,_⟩=>s_build
 |⟨_,.slice _ _ _ _ _,_,_,_,_⟩=>s_slice
 |⟨_,.makeMap _ _,_,_,_,_⟩=>s_makeMap
 |⟨_,.lookup _ _ _ _,_,_,_,_⟩=>s_lookup
 |⟨_,.mapUpdate _ _ _ _,_,_,_,_⟩=>s_mapUpdate
 |⟨_,.insert _ _ _ _,_,_,_,_⟩=>s_insert
 |⟨_,.call _,_,_,_,_⟩=>s_call
 |⟨_,.range _ _,_,_,_,_⟩=>s_range
 |⟨_,.next _ _,_,_,_,_⟩=>s_next
 |⟨_,.entry _,_,_,_,_⟩=>s_entry
 |⟨_,.makeSlice _ _ _,_,_,_,_⟩=>s_makeSlice
 |⟨_,.move _,_,_,_,_⟩=>s_move
 |⟨_,.pick _ _ _,t,_,_,_⟩=>p_pick (tt:=G.tt) (ty:=t) (ob:=st.o) (K:=fun v=>K v st)
 |⟨_,.load _ _,t,_,_,_⟩=>p_load (tt:=G.tt) (ty:=t) (ob:=st.o) (K:=fun v=>K v st)
 |⟨_,.nilCheck _,t,_,_,_⟩=>p_nilCheck (tt:=G.tt) (ty:=t) (ob:=st.o) (K:=fun v=>K v st)
 |⟨_,.binOp _ _ _ _ u,t,_,_,_⟩=>p_binOp (z:=u) (tt:=G.tt) (ty:=t) (ob:=st.o) (K:=fun v=>K v st)
 |⟨_,.unOp _ u _,t,_,_,_⟩=>p_unOp (t:=u) (tt:=G.tt) (ty:=t) (ob:=st.o) (K:=fun v=>K v st)
 |⟨_,.convert _ _ _,t,_,_,_⟩=>p_convert (tt:=G.tt) (ty:=t) (ob:=st.o) (K:=fun v=>K v st)
 |⟨_,.fieldAddr _ _ _,t,_,_,_⟩=>p_fieldAddr (tt:=G.tt) (ty:=t) (ob:=st.o) (K:=fun v=>K v st)
 |⟨_,.field _ _ _,t,_,_,_⟩=>p_field (tt:=G.tt) (ty:=t) (ob:=st.o) (K:=fun v=>K v st)
 |⟨_,.indexAddr _ _ _,t,_,_,_⟩=>p_indexAddr (tt:=G.tt) (ty:=t) (ob:=st.o) (K:=fun v=>K v st)
 |⟨_,.index _ _ _,t,_,_,_⟩=>p_index (tt:=G.tt) (ty:=t) (ob:=st.o) (K:=fun v=>K v st)
 |⟨_,.extract _ _,t,_,_,_⟩=>p_extract (tt:=G.tt) (ty:=t) (ob:=st.o) (K:=fun v=>K v st)
 |⟨_,.makeFunc _ _ _,t,_,_,_⟩=>p_makeFunc (tt:=G.tt) (ty:=t) (ob:=st.o) (K:=fun v=>K v st)
 |_=>⟨false,fun h=>by cases h⟩
end
abbrev RunP:=St→(PV→St→Prop)→Prop
instance {d:Option Nat} {v:PV} {st:St} {K:St→Prop} [hK:∀ s,Sd (K s)]:Sd (putK G d v st K):=by
 delta putK
 split
 ·rename_i d
  have:Sd (match st with|⟨s,o⟩=>K ⟨(d,v)::s,o⟩):=by split;infer_instance
  infer_instance
 ·infer_instance
@[reducible] def sdG {run:RunP} (hr:∀ st k,(∀ v s,Sd (k v s))→Sd (run st k)) {all:List Oper} {o:Oper} {st:St} {K:St→Prop} (hK:∀ s,Sd (K s)):Sd (guarded G all o st run K):=by
 have hp:∀ st,Sd (run st fun v st'=>putK G o.dst v st' K):=fun st=>hr _ _ fun _ _=>inferInstance
 delta guarded
 (repeat' split)<;>first|exact hp _|infer_instance|exact ⟨false,fun h=>by cases h⟩
@[reducible] def sdOps (all:List Oper):∀ (l:List Oper) (st:St) (Q:St→Prop),(∀ s,Sd (Q s))→Sd (runOps Std G C all l st Q)
 |[],st,Q,hQ=>hQ st
 |o::os,st,Q,hQ=>sdG (run:=fun st K=>stepC Std G C o st K) (fun _ _ hk=>sdStep (hK:=hk)) fun s=>sdOps all os s Q hQ
@[reducible] def sdFl {all:List Oper} {o:Oper} {st:St} {K:St→Prop} (hK:∀ s,Sd (K s)):Sd (guarded G all o st (fun st K=>pureOp Std G.tt o.op o.type st.s (viewO G st.o) fun v=>K v st) K):=
 sdG (fun _ _ hk=>sdPure (hK:=fun v=>hk v _)) hK
@[reducible] def sdLin (all:List Oper):∀ (l:List Nat) (st:St) (Q:St→Prop),(∀ s,Sd (Q s))→Sd (linR Std G C all l st Q)
 |[],st,Q,hQ=>hQ st
 |i::p,st,Q,hQ=>by
  show Sd (match nthOp all i with|none=>False|some o=>_)
  split
  ·infer_instance
  ·split
   ·exact sdFl fun s=>sdLin all p s Q hQ
   ·exact sdG (run:=fun st K=>stepC Std G C _ st K) (fun _ _ hk=>sdStep (hK:=hk)) fun s=>sdLin all p s Q hQ
@[reducible] def sdAll {f:Nat→Oper→Prop} (hf:∀ i o,Sd (f i o)):∀ l,Sd (allP f l)
 |[]=>⟨true,fun _=>trivial⟩
 |[x]=>hf _ _
 |x::y::l=> @sdAnd _ _ (hf _ _) (sdAll hf (y::l))
instance sdSame {n0:Nat} {s1 s2:St}:Sd (sameSt n0 s1 s2):=⟨sameB n0 s1 s2,sameSt_ok⟩
@[reducible] def sdAny (all:List Oper):∀ (n:Nat) (rest:List (Nat×Nat×Oper)) (L:Nat) (st:St) (Q:St→Prop),(∀ s,Sd (Q s))→Sd (anyR Std G C all n rest L st Q)
 |0,rest,L,st,Q,hQ=>by
  show Sd (match readyR L rest with|[]=>Q st|_=>False)
  split
  ·exact hQ _
  ·infer_instance
 |n+1,rest,L,st,Q,hQ=>by
  show Sd (match firstR G L rest with|some (i,o)=>_|none=>_)
  split
  ·exact sdFl fun s=>sdAny all n _ _ s Q hQ
  ·split
   ·exact hQ _
   ·split
    ·exact sdG (run:=fun st K=>stepC Std G C _ st K) (fun _ _ hk=>sdStep (hK:=hk)) fun s=>sdAny all n _ _ s _ fun s1=> @sdAnd _ _ (sdAll (fun i o=>sdG (run:=fun st K=>stepC Std G C o st K) (fun _ _ hk=>sdStep (hK:=hk)) fun s=>sdAny all n _ _ s _ fun s2=>sdSame) _) (hQ s1)
    ·exact sdAll (fun i o=>sdG (run:=fun st K=>stepC Std G C o st K) (fun _ _ hk=>sdStep (hK:=hk)) fun s=>sdAny all n _ _ s Q hQ) _
@[reducible] def sdReg {id:Nat} {ops:Array Oper} {d:Bool} {st:St} {Q:St→Prop} (hQ:∀ s,Sd (Q s)):Sd (regP Std G C id ops d st Q):=by
 have ff:∀ b:Bool,Sd ((False→False)→b=true):=fun b=>⟨b,fun h _=>h⟩
 delta regP
 split
 ·exact sdOps _ _ _ _ hQ
 ·split
  ·exact @sdAnd _ _ (ff _) (sdAny _ _ _ _ _ _ hQ)
  ·exact @sdAnd _ _ (ff _) (sdLin _ _ _ _ hQ)
variable {LP:Code→St→(Ex→St→Prop)→Prop}
@[reducible] def sdPwp (hL:∀ c st Q,(∀ e s,Sd (Q e s))→Sd (LP c st Q)):∀ (c:Code) (st:St) (Q:Ex→St→Prop),(∀ e s,Sd (Q e s))→Sd (pwp Std G C LP c st Q)
 | .skip,st,Q,hQ=>hQ _ _
 | .region id ops d,st,Q,hQ=>by
  show Sd (match memL id G.cuts with|true=>LP (.region id ops d) st Q|false=>regP Std G C id ops d st (Q .normal))
  split
  ·exact hL _ _ _ hQ
  ·exact sdReg fun s=>hQ _ s
 | .seq x y,st,Q,hQ=>sdPwp hL x st _ fun e s=>match e with| .normal=>sdPwp hL y s Q hQ| .exit i=>hQ _ _| .ret=>hQ _ _
 | .cond c x y,st,Q,hQ=>by
  show Sd (match ev st.s c with| .bl true=>pwp Std G C LP x st Q| .bl false=>pwp Std G C LP y st Q| .bool t=>(t=true→pwp Std G C LP x (setT c true st) Q)∧(t=false→pwp Std G C LP y (setT c false st) Q)|_=>False)
  have h1:=fun st=>sdPwp hL x st Q hQ
  have h2:=fun st=>sdPwp hL y st Q hQ
  split<;>first|exact h1 _|exact h2 _|infer_instance
 | .block id c,st,Q,hQ=>sdPwp hL c st _ fun e s=>match e with
  | .exit j=>by
   show Sd (match nb j id with|true=>Q .normal s|false=>Q (.exit j) s)
   split<;>exact hQ _ _
  | .normal=>hQ _ _| .ret=>hQ _ _
 | .exit id,st,Q,hQ=>hQ _ _
 | .ret,st,Q,hQ=>hQ _ _
 | .loop c,st,Q,hQ=>hL _ _ _ hQ
 | .rangeFunc g ps c1 c2,st,Q,hQ=>hL _ _ _ hQ
 |_,_,_,_=>by unfold pwp;exact ⟨false,fun h=>by cases h⟩
@[reducible] def sdEnd {n0:Nat} {rs:List ResultVar} {st:St} {K:PV→List Ob→Prop} (hK:∀ v o,Sd (K v o)):Sd (retLiveK G n0 rs st K):=by
 delta retLiveK
 split
 ·delta outK;infer_instance
 ·infer_instance
end
section
variable {G:Cfg} {C:CallP} [hC:SdC C]
@[reducible] def sdRunD (all:List Oper):∀ (l:List Oper) (st:St) (Q:Option Dl→St→Prop),(∀ x s,Sd (Q x s))→Sd (runD Std G C all l st Q)
 |[],st,Q,hQ=>hQ none st
 |o::os,st,Q,hQ=>by
  unfold runD
  split
  ·split
   ·split
    ·exact @sdBif _ _ _ (sdOps _ _ _ _ fun s=>hQ _ s) inferInstance
    ·infer_instance
   ·infer_instance
  ·exact sdG (run:=fun st K=>stepC Std G C o st K) (fun _ _ hk=>sdStep (hK:=hk)) fun s=>sdRunD all os s Q hQ
variable {LP:Code→St→(Ex→St→Prop)→Prop}
@[reducible] def sdDwp (hL:∀ c st Q,(∀ e s,Sd (Q e s))→Sd (LP c st Q)):∀ (c:Code) (st:St) (Q:Option Dl→Ex→St→Prop),(∀ x e s,Sd (Q x e s))→Sd (dwp Std G C LP c st Q)
 | .region id ops d,st,Q,hQ=>by
  unfold dwp
  split
  ·exact sdRunD _ _ _ _ fun x s=>hQ x _ s
  ·split
   ·exact @sdBif _ _ _ (sdReg fun s=>sdRunD _ _ _ _ fun x s=>hQ x _ s) inferInstance
   ·infer_instance
  ·exact sdPwp hL _ _ _ fun e s=>hQ none e s
 | .seq x y,st,Q,hQ=>by
  unfold dwp
  split
  ·exact sdPwp hL x st _ fun e s=>match e with| .normal=>sdDwp hL y s Q hQ| .exit i=>hQ _ _ _| .ret=>hQ _ _ _
  ·exact sdDwp hL x st _ fun o e s=>match e with| .normal=>sdPwp hL y s _ fun e s=>hQ o e s| .exit i=>hQ _ _ _| .ret=>hQ _ _ _
 | .cond c x y,st,Q,hQ=>by
  unfold dwp
  have h1:=fun st=>sdDwp hL x st Q hQ
  have h2:=fun st=>sdDwp hL y st Q hQ
  split<;>first|exact h1 _|exact h2 _|infer_instance
 | .block id c,st,Q,hQ=>by
  unfold dwp
  exact sdDwp hL c st _ fun o e s=>match e with
  | .exit j=>by
   show Sd (match nb j id with|true=>Q o .normal s|false=>Q o (.exit j) s)
   split<;>exact hQ _ _ _
  | .normal=>hQ _ _ _| .ret=>hQ _ _ _
 | .skip,st,Q,hQ=>sdPwp hL .skip st _ fun e s=>hQ none e s
 | .exit i,st,Q,hQ=>sdPwp hL (.exit i) st _ fun e s=>hQ none e s
 | .ret,st,Q,hQ=>sdPwp hL .ret st _ fun e s=>hQ none e s
 | .loop c,st,Q,hQ=>sdPwp hL (.loop c) st _ fun e s=>hQ none e s
 |_,_,_,_=>⟨false,fun h=>by cases h⟩
end
def LoopW (G:Cfg) (C:CallP) (LP:Code→St→(Ex→St→Prop)→Prop) (c:Code) (Q:Ex→St→Prop):Nat→St→Prop
 |0,_=>False
 |m+1,st=>pwp Std G C LP c st fun e st'=>match e with| .normal=>LoopW G C LP c Q m st'| .exit i=>Q (.exit i) st'| .ret=>Q .ret st'
section
variable {P:Program} {tt:TypeId→Option TI} {G:Cfg}
def PWa (P:Program) (G:Cfg) (c:Code) (st:St) (Q:Ex→St→Prop):Prop:=∀ r,(G.rnd=false→r=none)→PWp P G.tt G.n G.n0 r c st Q
def snkJ (s:Slots):List Nat→List Nat
 |[]=>[]
 |t::l=>match look s t with| .mp r=>r::snkJ s l|_=>snkJ s l
theorem PWa.sinks {c:Code} {st:St} {Q:Ex→St→Prop} (js:List Nat) (h:PWa P G c (sinks js st) Q):PWa P G c st Q:=by
 intro r hr B E Pp a w hb hs
 obtain ⟨Pp1,q1,q2,q3,q4⟩:=sinks_ok js hs.toW hs.slots
 refine wpIn_mono (h r hr B E Pp1 a w hb (SimW.sim q1 q3 hs.size hs.defers)) fun e a' w' h=>h
theorem LoopW_ok (htt:TtOk P G.tt) (hm:P.follows .mixedOrders=true) {c:Code} {Q:Ex→St→Prop} {m:Nat} {st:St} (h:LoopW G (FCx P G.tt) (PWa P G) c Q m st):PWa P G (.loop c) st Q:=by
 intro r hr
 refine loop_gen (fun s t=>s=t) (fun _ hs e=>e▸⟨_,hs,fun _ h=>h⟩) (fun x:Nat×St=>x.2) (fun x=>LoopW G (FCx P G.tt) (PWa P G) c Q x.1 x.2) (·.1) (m,st) h rfl ?_
 rintro ⟨k,s⟩ hx
 cases k with
 |zero=>exact hx.elim
 |succ k=>
  refine PWp.mono (pwp_okL htt hm (fun _ _ _ h=>h r hr) c s _ hx) fun e s' hq=> ?_
  cases e with
  |normal=>exact ⟨(k,s'),hq,Nat.lt_succ_self k,rfl⟩
  |exit i=>exact hq
  |ret=>exact hq
@[reducible] def sdLoop {C:CallP} [SdC C] {LP:Code→St→(Ex→St→Prop)→Prop} (hL:∀ c st Q,(∀ e s,Sd (Q e s))→Sd (LP c st Q)) {c:Code} {Q:Ex→St→Prop} (hQ:∀ e s,Sd (Q e s)):∀ m st,Sd (LoopW G C LP c Q m st)
 |0,_=>⟨false,fun h=>by cases h⟩
 |m+1,st=>sdPwp hL c st _ fun e s=>match e with| .normal=>sdLoop hL hQ m s| .exit _=>hQ _ _| .ret=>hQ _ _
def sqS (s:Slots):List Nat→Slots
 |[]=>[]
 |t::l=>(t,look s t)::sqS s l
theorem pvLe_rfl:∀ p:PV,pvLe p p:=by intro p;cases p<;>simp [pvLe]
theorem sqS_ok (s:Slots):∀ l,subS s (sqS s l)
 |[]=>trivial
 |_::l=>⟨pvLe_rfl _,sqS_ok s l⟩
instance {n:Nat} {st:St} {Q:Ex→St→Prop} [∀ e s,Sd (Q e s)]:Sd (rangeEnd n st Q):=by
 delta rangeEnd
 (repeat' split)<;>first|infer_instance|exact ⟨false,fun h=>by cases h⟩
@[reducible] def sdL [SdC (FCx P G.tt)] (htt:TtOk P G.tt) (hm:P.follows .mixedOrders=true):Nat→∀ (c:Code) (st:St) (Q:Ex→St→Prop),(∀ e s,Sd (Q e s))→Sd (PWa P G c st Q)
 |0,_,_,_,_=>⟨false,fun h=>by cases h⟩
 |n+1,c,st,Q,hQ=>match c with
  | .loop c=>⟨(sdLoop (sdL htt hm n) hQ 100000 (sinks (snkJ st.s G.snk) st)).b,fun h=>PWa.sinks _ (LoopW_ok htt hm ((sdLoop (sdL htt hm n) hQ 100000 (sinks (snkJ st.s G.snk) st)).h h))⟩
  | .rangeFunc g ps c1 c2=>match hg:ev st.s g with
   | .clos f caps=>match hf:P.funcs[f]? with
    |some fn=>match hb:fn.body with
     |some code=>
      let x:Sd (rangeK G (FCx P G.tt) f caps ps c1 c2 (sqS st.s (match G.rng with|[]=>iotaL G.n 0|l=>l)) st Q):=by delta rangeK;infer_instance
      ⟨((fn.name== "runtime.NumGoroutine")==false&&nlt f bndM&&bNot G.rnd)&&x.b,fun h=>by
        simp only [Bool.and_eq_true,beq_iff_eq] at h
        have h5:G.rnd=false:=by have:=h.1.2;cases hr:G.rnd<;>simp [hr,bNot] at this ⊢
        intro r hr
        obtain rfl:=hr h5
        exact rangeFn_ok hg ⟨hf,h.1.1.1,hb⟩ h.1.1.2 (sqS_ok _ _) (x.h h.2)⟩
     |none=>⟨false,fun h=>by cases h⟩
    |none=>⟨false,fun h=>by cases h⟩
   |_=>⟨false,fun h=>by cases h⟩
  |_=>⟨false,fun h=>by cases h⟩
def snkE (G:Cfg) (rs:List ResultVar) (st:St):St:=match G.snk with
 |[]=>st
 |_=>match resOf G st rs with|some v=>sinks (mpsAgg v) st|none=>st
theorem FC.live' {G:Cfg} {f:FuncId} {fn:Func} {c:Code} {objs:List Ob} {args:List PV} {K:PV→List Ob→Prop} (htt:TtOk P G.tt) (hm:P.follows .mixedOrders=true) (hf:P.funcs[f]? =some fn) (hb:fn.body=some c)
 (hs:((fn.name== "runtime.NumGoroutine")==false&&nb fn.ntmps G.n&&nb (lenL objs) G.n0&&nle (lenL args) G.n)=true)
 (h:pwp Std G (FCx P G.tt) (PWa P G) c (liveT G.lnd objs args) fun e st=>match e with| .exit _=>False|_=>retLiveK G G.n0 fn.results.toList (snkE G fn.results.toList st) K):FC P G.tt f objs args K:=by
 simp only [Bool.and_eq_true,beq_iff_eq] at hs
 obtain ⟨⟨⟨h1,h2⟩,h3⟩,h4⟩:=hs
 have h3:=nb_of h3
 rw [lenL_eq] at h3
 refine FC_genL (LP:=PWa P G) (fun _ _ _ h=>h none fun _=>rfl) htt hm h1 hf hb h3 _ (startT G.lnd (nb_of h2) h4) h ?_
 intro E Pp w E' Pp' st' a' w' d hw hr hs'
 have key:∃ Pp2,Sim G.tt G.n { w0:=w,E0:=E,P0:=Pp,own0:=own E objs,d0:=d } E' Pp2 (snkE G fn.results.toList st') a' w':=by
  unfold snkE
  split
  ·exact ⟨_,hs'⟩
  ·split
   ·obtain ⟨Pp2,q1,q2,q3,q4⟩:=sinks_ok (mpsAgg _) hs'.toW hs'.slots
    exact ⟨Pp2,SimW.sim q1 q3 hs'.size hs'.defers⟩
   ·exact ⟨_,hs'⟩
 generalize snkE G fn.results.toList st'=st' at hr key
 obtain ⟨Pp2,hs'⟩:=key
 unfold retLiveK at hr
 split at hr
 ·rename_i p hp
  obtain ⟨v,h1,h2⟩:=resOf_ok htt hs' hp
  rw [← h3] at hr
  exact ⟨v,h1,outK_ok hw (s':=st'.s) (o':=st'.o) hs' h2 hr⟩
 ·exact hr.elim
theorem FC.data' {G:Cfg} {f:FuncId} {fn:Func} {c:Code} {args:List PV} {K:PV→List Ob→Prop} (htt:TtOk P G.tt) (hm:P.follows .mixedOrders=true) (hf:P.funcs[f]? =some fn) (hb:fn.body=some c)
 (hs:((fn.name== "runtime.NumGoroutine")==false&&nb fn.ntmps G.n&&nb 0 G.n0&&nle (lenL args) G.n)=true)
 (h:pwp Std G (FCx P G.tt) (PWa P G) c ⟨initS 0 args,[]⟩ fun e st=>match e with| .exit _=>False|_=>retK G 0 fn.results.toList st K):FC P G.tt f [] args K:=by
 simp only [Bool.and_eq_true,beq_iff_eq] at hs
 obtain ⟨⟨⟨h1,h2⟩,h3⟩,h4⟩:=hs
 have h3:=nb_of h3
 exact FC_of htt hm h1 hf hb (nb_of h2) h3.symm h4 (fun _ _ _ h=>h none fun _=>rfl) h
instance sdRet {G:Cfg} {n0:Nat} {rs:List ResultVar} {st:St} {K:PV→List Ob→Prop} [∀ v o,Sd (K v o)]:Sd (retK G n0 rs st K):=by
 delta retK
 split<;>infer_instance
instance {st:St} {j j':LS} {K:St→Prop} [∀ s,Sd (K s)]:Sd (setLoop st j j' K):=by
 delta setLoop
 (repeat' split)<;>first|infer_instance|exact ⟨false,fun h=>by cases h⟩
instance {n0:Nat} {v:PV} {o:List Ob} {ps:List Nat} {K:PV→List Ob→Prop} [∀ v o,Sd (K v o)]:Sd (outK n0 v o ps K):=by delta outK;infer_instance
instance {n0:Nat} {e:Ex} {st:St} {K:PV→List Ob→Prop} [∀ v o,Sd (K v o)]:Sd (roundEnd n0 e st K):=by
 delta roundEnd
 split<;>infer_instance
structure Rn (P:Program) (tt:TypeId→Option TI) where
 cfg:FuncId→Option Cfg
 rnd:Nat→List Nat→Option Cfg
 own:FuncId→Bool
 orc:∀ (f:FuncId) (o:List Ob) (a:List PV),Option { r:PV×List Ob // ∀ K:PV→List Ob→Prop,K r.1 r.2→FC P tt f o a K }
 gss:∀ (f:FuncId) (o:List Ob) (a:List PV),Option (PV×List Ob)
@[reducible] def sdFn (htt:TtOk P tt) (hm:P.follows .mixedOrders=true) (R:Rn P tt) (rec:∀ (w:Who) (o:List Ob) (a:List PV) (K:PV→List Ob→Prop),(∀ v o',Sd (K v o'))→Sd (FCx P tt w o a K)) (f:FuncId) (o:List Ob) (a:List PV) (K:PV→List Ob→Prop) (hK:∀ v o',Sd (K v o')):Sd (FCx P tt (.fn f) o a K):=
 match R.orc f o a with
  |some r=>⟨(hK r.1.1 r.1.2).b,fun h=>r.2 K ((hK r.1.1 r.1.2).h h)⟩
  |none=>match hf:P.funcs[f]?,R.cfg f with
  |some fn,some G=>(match hb:fn.body with
   |some c=>match o,R.own f with
    |[],false=>
     let G':Cfg:={ G with tt:=tt,n0:=0,cuts:=[],rnd:=false }
     have:SdC (FCx P G'.tt):=⟨rec⟩
     let x:=sdPwp (G:=G') (C:=FCx P G'.tt) (sdL (G:=G') htt hm 9) c ⟨initS 0 a,[]⟩ (fun e st=>match e with| .exit _=>False|_=>retK G' 0 fn.results.toList st K) fun e s=>match e with| .exit _=>⟨false,fun h=>by cases h⟩| .normal=>sdRet| .ret=>sdRet
     ⟨(((fn.name== "runtime.NumGoroutine")==false&&nb fn.ntmps G'.n&&nb 0 G'.n0&&nle (lenL a) G'.n)&&x.b),fun h=>by
       rw [Bool.and_eq_true] at h
       exact FC.data' (G:=G') htt hm hf hb h.1 (x.h h.2)⟩
    |o,_=>
     let G':Cfg:={ G with tt:=tt,n0:=lenL o,cuts:=[],rnd:=false }
     have:SdC (FCx P G'.tt):=⟨rec⟩
     match hd:hasD c,hr:fn.results.toList with
     |true,[]=>
     let x:=sdDwp (G:=G') (C:=FCx P G'.tt) (sdL (G:=G') htt hm 9) c (liveStart o a) (fun x e st=>match e with
      | .exit _=>False
      |_=>match x with
       |none=>retLiveK G' G'.n0 [] st K
       |some q=>stepC Std G' (FCx P G'.tt) (delO G'.n q) ⟨(G'.n,.mp q.r)::(G'.n+1,.str q.s)::st.s,st.o⟩ fun _ st=>retLiveK G' G'.n0 [] st K)
      fun x e s=>match e,x with
       | .exit _,_=>⟨false,fun h=>by cases h⟩
       | .normal,none=>sdEnd hK| .ret,none=>sdEnd hK
       | .normal,some q=>sdStep (hK:=fun _ _=>sdEnd hK)| .ret,some q=>sdStep (hK:=fun _ _=>sdEnd hK)
     ⟨(((fn.name== "runtime.NumGoroutine")==false&&nb fn.ntmps G'.n&&nb (lenL o) G'.n0&&nle (lenL a) G'.n)&&x.b),fun h=>by
       rw [Bool.and_eq_true] at h
       exact FC.liveD (G:=G') (LP:=PWa P G') (fun _ _ _ h=>h none fun _=>rfl) htt hm hf hb hr h.1 (x.h h.2)⟩
     |_,_=>
     let x:=sdPwp (G:=G') (C:=FCx P G'.tt) (sdL (G:=G') htt hm 9) c (liveT G'.lnd o a) (fun e st=>match e with| .exit _=>False|_=>retLiveK G' G'.n0 fn.results.toList (snkE G' fn.results.toList st) K) fun e s=>match e with| .exit _=>⟨false,fun h=>by cases h⟩| .normal=>sdEnd hK| .ret=>sdEnd hK
     ⟨(((fn.name== "runtime.NumGoroutine")==false&&nb fn.ntmps G'.n&&nb (lenL o) G'.n0&&nle (lenL a) G'.n)&&x.b),fun h=>by
       rw [Bool.and_eq_true] at h
       exact FC.live' (G:=G') htt hm hf hb h.1 (x.h h.2)⟩
   |none=>⟨false,fun h=>by cases h⟩)
  |_,_=>⟨false,fun h=>by cases h⟩
@[reducible] def sdWho (htt:TtOk P tt) (hm:P.follows .mixedOrders=true) (R:Rn P tt):Nat→∀ (w:Who) (o:List Ob) (a:List PV) (K:PV→List Ob→Prop),(∀ v o',Sd (K v o'))→Sd (FCx P tt w o a K)
 |0,_,_,_,_,_=>⟨false,fun h=>by cases h⟩
 |k+1,.yld,o,a,K,hK=>match o with
  | .loop n ps c1 c2 s .ready::os=>match R.rnd n ps with
   |some G=>
    let G':Cfg:={ G with tt:=tt,n:=n,n0:=lenL os+1,cuts:=[],rnd:=true }
    have:SdC (FCx P G'.tt):=⟨sdWho htt hm R k⟩
    let x:=sdPwp (G:=G') (C:=FCx P G'.tt) (sdL (G:=G') htt hm 9) c1 (roundStart s ps (.loop n ps c1 c2 s .ready::os) a)
     (fun e st=>match e with| .normal=>setLoop st .ready .busy fun st=>pwp Std G' (FCx P G'.tt) (PWa P G') c2 st fun e st=>roundEnd G'.n0 e st K|_=>False)
     fun e s=>match e with
      | .normal=>
       have:∀ st,Sd (pwp Std G' (FCx P G'.tt) (PWa P G') c2 st fun e st=>roundEnd G'.n0 e st K):=fun st=>sdPwp (G:=G') (C:=FCx P G'.tt) (sdL (G:=G') htt hm 9) c2 st _ fun e s=>inferInstance
       inferInstanceAs (Sd (setLoop s .ready .busy fun st=>pwp Std G' (FCx P G'.tt) (PWa P G') c2 st fun e st=>roundEnd G'.n0 e st K))
      | .exit _=>⟨false,fun h=>by cases h⟩| .ret=>⟨false,fun h=>by cases h⟩
    ⟨(nb (lenL a) (lenL ps)&&allLtL n ps)&&x.b,fun h=>by
      simp only [Bool.and_eq_true] at h
      exact YC.enterL (G:=G') htt hm (nb_refl _) (nb_refl _) h.1.1 h.1.2 fun l=>⟨PWa P G',fun _ _ _ h=>h (some l) (fun h=>by cases h),x.h h.2⟩⟩
   |none=>⟨false,fun h=>by cases h⟩
  |_=>⟨false,fun h=>by cases h⟩
 |n+1,.fn f,o,a,K,hK=>match R.gss f o a with
  |some r=>
   let x:=sdFn htt hm R (sdWho htt hm R n) f o a (fun v o'=>eqP v r.1=true∧eqOs o' r.2=true) fun v o'=>sdAnd
   ⟨x.b&&(hK r.1 r.2).b,fun h=>by
     rw [Bool.and_eq_true] at h
     exact FC.mono (x.h h.1) fun v o' hv=>by
      rw [eqP_ok hv.1,eqOs_ok hv.2]
      exact (hK r.1 r.2).h h.2⟩
  |none=>sdFn htt hm R (sdWho htt hm R n) f o a K hK
end
end Sd
end
end Go.VC
end
