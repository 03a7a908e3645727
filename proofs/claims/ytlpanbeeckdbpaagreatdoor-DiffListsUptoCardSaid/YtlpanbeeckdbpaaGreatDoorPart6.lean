/- Part 6 of the common texts: T8 T9 TA TB. -/
import Derived.Test.YtlpanbeeckdbpaaGreatDoorPart4
import Derived.Test.YtlpanbeeckdbpaaGreatDoorPart5
set_option linter.all false
set_option maxRecDepth 100000
set_option maxHeartbeats 16000000

section
namespace Go.VC
theorem decF {p:Prop} {i:Decidable p} (h:p) (e: @decide p i=false):False:=absurd h (@of_decide_eq_false p i e)
structure Ch where
 k:Int
 n:S
 t:S
 ix:Int
 dr:Int
 ca:Bool
 im:Bool
def encCh (x:Ch):List D:=[.int x.k,.str x.n,.str x.t,.int x.ix,.int x.dr,.bool x.ca,.bool x.im]
def chPV (c0:Int) (c1 c2:S) (c3 c4:Int) (c5 c6:Bool):PV:=.agg [.int .i64 c0,.str c1,.str c2,.int .i64 c3,.int .i64 c4,.bool c5,.bool c6]
def chIs (x:Ch) (c0:Int) (c1 c2:S) (c3 c4:Int) (c5 c6:Bool):Prop:=c0=x.k∧c1=x.n∧c2=x.t∧c3=x.ix∧c4=x.dr∧c5=x.ca∧c6=x.im
theorem chIsAt {A:Alg} (hA:A=Std) {l:List Ch} {d:D} (hd:d=encL encCh l) {i:Nat} (h:i<l.length):
 chIs l[i] (A.asInt (A.cell d (Int.ofNat i) 0)) (A.asStr (A.cell d (Int.ofNat i) 1)) (A.asStr (A.cell d (Int.ofNat i) 2)) (A.asInt (A.cell d (Int.ofNat i) 3)) (A.asInt (A.cell d (Int.ofNat i) 4)) (A.asBool (A.cell d (Int.ofNat i) 5)) (A.asBool (A.cell d (Int.ofNat i) 6)):=by
 subst hA hd
 simp only [Std_cell h]
 exact ⟨rfl,rfl,rfl,rfl,rfl,rfl,rfl⟩
theorem chLit {A:Alg} (hA:A=Std) {x:Ch} {c0:Int} {c1 c2:S} {c3 c4:Int} {c5 c6:Bool} (h:chIs x c0 c1 c2 c3 c4 c5 c6):A.lit [[.int c0,.str c1,.str c2,.int c3,.int c4,.bool c5,.bool c6]]=encL encCh [x]:=by
 obtain ⟨rfl,rfl,rfl,rfl,rfl,rfl,rfl⟩:=h
 rw [hA];rfl
end Go.VC
namespace Go.VC.T07
open Go Go.VC Go.Proofs
set_option maxRecDepth 100000
def g37:Cfg:={tt:=tt,n:=9}
def g38:Cfg:={tt:=tt,n:=9}
def g39:Cfg:={tt:=tt,n:=6}
def g40:Cfg:={tt:=tt,n:=6}
def g71:Cfg:={tt:=tt,n:=19}
def g14:Cfg:={tt:=tt,n:=6}
def g15:Cfg:={tt:=tt,n:=16}
def g16:Cfg:={tt:=tt,n:=6}
def g17:Cfg:={tt:=tt,n:=16}
theorem F37 {c0:Int} {c1 c2:S} {c3 c4:Int} {c5 c6:Bool} {K:PV→List Ob→Prop} (h:∀ b,b=(c5&&c6)→K (.bool b) []):FC Tryz.prog tt 37 [] [chPV c0 c1 c2 c3 c4 c5 c6] K:=by
 refine FC.enter (G:=g37) tt_ok mixed ⟨Tryz.func37,by rfl,rfl⟩ rfl rfl rfl ?_
 intro A C L X
 have q1:c5=true→K (.bool c6) []:=fun e=>h _ (by rw [e];rfl)
 have q2:c5=false→K (.bool false) []:=fun e=>h _ (by rw [e];rfl)
 have q3:K (.bool (A.ite c5 c6 false)) []:=h _ (by rw [X.a,Std_ite];cases c5<;>rfl)
 cbv
 repeat' (first|apply And.intro|exact fun (_:FF)=>by kernel_rfl|(intro h2;cbv)|apply Or.inl)
 all_goals first|exact q3|exact q1 (by assumption)|exact q2 (by assumption)|trace_state
theorem F39 {c0:Int} {c1 c2:S} {c3 c4:Int} {c5 c6:Bool} {K:PV→List Ob→Prop} (h:∀ b,b= !c5→K (.bool b) []):FC Tryz.prog tt 39 [] [chPV c0 c1 c2 c3 c4 c5 c6] K:=by
 refine FC.enter (G:=g39) tt_ok mixed ⟨Tryz.func39,by rfl,rfl⟩ rfl rfl rfl ?_
 intro A C L X
 have q:=h (A.not c5) (by rw [X.a,Std_not])
 cbv
 exact q
theorem F40 {c0:Int} {c1 c2:S} {c3 c4:Int} {c5 c6:Bool} {K:PV→List Ob→Prop} (h:∀ b,b= !c6→K (.bool b) []):FC Tryz.prog tt 40 [] [chPV c0 c1 c2 c3 c4 c5 c6] K:=by
 refine FC.enter (G:=g40) tt_ok mixed ⟨Tryz.func40,by rfl,rfl⟩ rfl rfl rfl ?_
 intro A C L X
 have q:=h (A.not c6) (by rw [X.a,Std_not])
 cbv
 exact q
def PrCh (f:FuncId) (p:Ch→Bool):Prop:=∀ (x:Ch) (c0:Int) (c1 c2:S) (c3 c4:Int) (c5 c6:Bool) (K:PV→List Ob→Prop),chIs x c0 c1 c2 c3 c4 c5 c6→(∀ b,b=p x→K (.bool b) [])→FC Tryz.prog tt f [] [chPV c0 c1 c2 c3 c4 c5 c6] K
theorem Pr37:PrCh 37 fun x=>x.ca&&x.im:=fun x _ _ _ _ _ _ _ K hx h=>F37 fun b hb=>h b (by rw [hb,hx.2.2.2.2.2.1,hx.2.2.2.2.2.2])
theorem Pr39:PrCh 39 fun x=> !x.ca:=fun x _ _ _ _ _ _ _ K hx h=>F39 fun b hb=>h b (by rw [hb,hx.2.2.2.2.2.1])
theorem Pr40:PrCh 40 fun x=> !x.im:=fun x _ _ _ _ _ _ _ K hx h=>F40 fun b hb=>h b (by rw [hb,hx.2.2.2.2.2.2])
theorem F71 {f:FuncId} {p:Ch→Bool} (hf:decide (f<1000000)=true) (hp:PrCh f p) {l:List Ch} {d:D} {K:PV→List Ob→Prop} (hd:d=encL encCh l) (hl:l.length≤4294967295)
 (h:∀ r:Int,r=idxF p l→K (.int .i64 r) []):FC Tryz.prog tt 71 [] [.lst 34 d,.clos f []] K:=by
 refine FC.enter (G:=g71) tt_ok mixed ⟨Tryz.func71,by rfl,rfl⟩ rfl rfl rfl ?_
 intro A C L X
 obtain ⟨n_d,hn_d,hlen_d⟩:=lenOf hd
 cbv
 refine X.loop (fun (i:Nat)=>⟨[(8,.int .i64 i),(7,.int .i64 (A.len d)),(1,.clos f []),(0,.lst 34 d)],[]⟩) (fun i=>i≤n_d∧∀ x∈l.take i,p x=false) (fun i=>n_d-i) 0 ⟨Nat.zero_le _,by simp⟩ ?_ ?_
 ·(cbv;repeat' apply And.intro);all_goals try first|trivial|rfl|(rw [X.a];rfl)
 rintro i ⟨hi,ha⟩
 cbv
 refine ⟨fun h1=> ?_,fun h1=> ?_⟩
 ·have h5:i<l.length:=by obtain rfl:=X.a;simp only [hlen_d,SD,bNot] at h1;omega
  have k1:=chIsAt X.a hd h5
  have hid:A.idx (Int.ofNat i) (A.len d):=by rw [X.a,hd];exact leaf_idx h5
  have hin:A.inr .i64 (A.add (Int.ofNat i) 1):=by rw [X.a];exact leaf_inc h5 (by omega)
  cbv
  repeat' (first|apply And.intro|exact fun (_:FF)=>by kernel_rfl|(intro h2;cbv)|apply Or.inl)
  any_goals exact hid
  split
  rotate_left
  ·rename_i e;exact (decF (by have hh:=of_decide_eq_true hf;exact hh) e).elim
  refine X.call (hp _ _ _ _ _ _ _ _ _ k1 fun b hb=> ?_)
  have hb':b=p l[i]:=hb
  clear hb
  cbv
  repeat' (first|apply And.intro|exact fun (_:FF)=>by kernel_rfl|(intro h2;cbv)|apply Or.inl)
  any_goals exact hin
  ·refine h i ?_
   exact (idxF_some h5 ha (by rw [← hb'];obtain rfl:=X.a;simpa only [SD,bNot] using h2)).symm
  ·have hf:p l[i]=false:=by rename_i h3;rw [← hb'];obtain rfl:=X.a;simpa only [SD,bNot] using h3
   refine ⟨i+1,⟨by omega,?_⟩,by omega,?_⟩
   ·rw [take_succ' h5];intro x hx
    rcases List.mem_append.1 hx with hx|hx
    ·exact ha x hx
    ·simp at hx;subst hx;exact hf
   (cbv;repeat' apply And.intro);all_goals try first|trivial|rfl|(rw [X.a];rfl)
 ·have h5:i=n_d:=by obtain rfl:=X.a;simp only [hlen_d,SD,bNot] at h1;omega
  subst h5
  cbv
  refine h (-1) ?_
  rw [hn_d,List.take_length] at ha
  exact (idxF_none ha).symm
theorem F38 {f:FuncId} {p:Ch→Bool} (hf:decide (f<1000000)=true) (hp:PrCh f p) {l:List Ch} {d:D} {K:PV→List Ob→Prop} (hd:d=encL encCh l) (hl:l.length≤4294967295)
 (h:∀ b,b=l.any p→K (.bool b) []):FC Tryz.prog tt 38 [] [.lst 34 d,.clos f []] K:=by
 refine FC.enter (G:=g38) tt_ok mixed ⟨Tryz.func38,by rfl,rfl⟩ rfl rfl rfl ?_
 intro A C L X
 cbv
 refine X.call (F71 hf hp hd hl fun r hr=> ?_)
 have q:=h (A.le 0 r) (by rw [X.a,Std_le,hr,idxF_any])
 cbv
 exact q
theorem F14 {l:List Ch} {d:D} {K:PV→List Ob→Prop} (hd:d=encL encCh l) (hl:l.length≤4294967295) (h:∀ b,b=(l.all fun x=>x.ca)→K (.bool b) []):FC Tryz.prog tt 14 [] [.lst 34 d] K:=by
 refine FC.enter (G:=g14) tt_ok mixed ⟨Tryz.func14,by rfl,rfl⟩ rfl rfl rfl ?_
 intro A C L X
 cbv
 refine X.call (F38 (by decide) Pr39 hd hl fun r hr=> ?_)
 have q:=h (A.not r) (by rw [X.a,Std_not,hr,List.any_eq_not_all_not];simp)
 cbv
 exact q
theorem F16 {l:List Ch} {d:D} {K:PV→List Ob→Prop} (hd:d=encL encCh l) (hl:l.length≤4294967295) (h:∀ b,b=(l.all fun x=>x.im)→K (.bool b) []):FC Tryz.prog tt 16 [] [.lst 34 d] K:=by
 refine FC.enter (G:=g16) tt_ok mixed ⟨Tryz.func16,by rfl,rfl⟩ rfl rfl rfl ?_
 intro A C L X
 cbv
 refine X.call (F38 (by decide) Pr40 hd hl fun r hr=> ?_)
 have q:=h (A.not r) (by rw [X.a,Std_not,hr,List.any_eq_not_all_not];simp)
 cbv
 exact q
end Go.VC.T07
end

section
namespace Go.VC
def brk (x:Ch):Bool:= !(x.ca&&x.im)
theorem filter_step {α:Type} {p:α→Bool} {l:List α} {i:Nat} (h:i<l.length):(l.take (i+1)).filter p=(l.take i).filter p++(bif p l[i] then [l[i]] else []):=by
 rw [take_succ' h,List.filter_append];cases hp:p l[i]<;>simp [hp]
end Go.VC
namespace Go.VC.T07
open Go Go.VC Go.Proofs
set_option maxRecDepth 100000
def g13:Cfg:={tt:=tt,n:=34,own:=[5]}
def g36:Cfg:={tt:=tt,n:=8,own:=[2,5]}
theorem F15 {l:List Ch} {d:D} {K:PV→List Ob→Prop} (hd:d=encL encCh l) (hl:l.length≤4294967295) (h:∀ b,b=(l.all fun x=>x.ca)→K (.bool b) []):FC Tryz.prog tt 15 [] [.lst 34 d] K:=by
 refine FC.enter (G:=g15) tt_ok mixed ⟨Tryz.func15,by rfl,rfl⟩ rfl rfl rfl ?_
 intro A C L X
 obtain ⟨n_d,hn_d,hlen_d⟩:=lenOf hd
 cbv
 refine X.loop (fun (i:Nat)=>⟨[(3,.int .i64 i),(0,.lst 34 d)],[]⟩) (fun i=>i≤n_d∧((l.take i).all fun x=>x.ca)=true) (fun i=>n_d-i) 0 ⟨Nat.zero_le _,rfl⟩ ?_ ?_
 ·(cbv;repeat' apply And.intro);all_goals try first|trivial|rfl|(rw [X.a];rfl)
 rintro i ⟨hi,ha⟩
 cbv
 refine ⟨fun h1=> ?_,fun h1=> ?_⟩
 ·have h5:i<l.length:=by obtain rfl:=X.a;simp only [hlen_d,SD,bNot] at h1;omega
  have k1:=chIsAt X.a hd h5
  have hid:A.idx (Int.ofNat i) (A.len d):=by rw [X.a,hd];exact leaf_idx h5
  have hin:A.inr .i64 (A.add (Int.ofNat i) 1):=by rw [X.a];exact leaf_inc h5 (by omega)
  obtain ⟨_,_,_,_,_,k5,k6⟩:=k1
  have n5:∀ b,A.not (A.asBool (A.cell d (Int.ofNat i) 5))=b→l[i].ca= !b:=fun b e=>by rw [← k5];rw [X.a] at e ⊢;subst e;simp [Std_not]
  clear h1
  cbv
  repeat' (first|apply And.intro|exact fun (_:FF)=>by kernel_rfl|(intro h2;cbv)|apply Or.inl)
  any_goals exact hid
  any_goals exact hin
  ·exact h false (all_false h5 (n5 _ h2)).symm
  ·refine ⟨i+1,⟨by omega,all_take h5 ha (n5 false (by assumption))⟩,by omega,?_⟩
   (cbv;repeat' apply And.intro);all_goals try first|trivial|rfl|(rw [X.a];rfl)
 ·have h5:i=n_d:=by obtain rfl:=X.a;simp only [hlen_d,SD,bNot] at h1;omega
  subst h5
  rw [hn_d,List.take_length] at ha
  cbv
  exact h true ha.symm
theorem F17 {l:List Ch} {d:D} {K:PV→List Ob→Prop} (hd:d=encL encCh l) (hl:l.length≤4294967295) (h:∀ b,b=(l.all fun x=>x.im)→K (.bool b) []):FC Tryz.prog tt 17 [] [.lst 34 d] K:=by
 refine FC.enter (G:=g17) tt_ok mixed ⟨Tryz.func17,by rfl,rfl⟩ rfl rfl rfl ?_
 intro A C L X
 obtain ⟨n_d,hn_d,hlen_d⟩:=lenOf hd
 cbv
 refine X.loop (fun (i:Nat)=>⟨[(3,.int .i64 i),(0,.lst 34 d)],[]⟩) (fun i=>i≤n_d∧((l.take i).all fun x=>x.im)=true) (fun i=>n_d-i) 0 ⟨Nat.zero_le _,rfl⟩ ?_ ?_
 ·(cbv;repeat' apply And.intro);all_goals try first|trivial|rfl|(rw [X.a];rfl)
 rintro i ⟨hi,ha⟩
 cbv
 refine ⟨fun h1=> ?_,fun h1=> ?_⟩
 ·have h5:i<l.length:=by obtain rfl:=X.a;simp only [hlen_d,SD,bNot] at h1;omega
  have k1:=chIsAt X.a hd h5
  have hid:A.idx (Int.ofNat i) (A.len d):=by rw [X.a,hd];exact leaf_idx h5
  have hin:A.inr .i64 (A.add (Int.ofNat i) 1):=by rw [X.a];exact leaf_inc h5 (by omega)
  obtain ⟨_,_,_,_,_,k5,k6⟩:=k1
  have n5:∀ b,A.not (A.asBool (A.cell d (Int.ofNat i) 6))=b→l[i].im= !b:=fun b e=>by rw [← k6];rw [X.a] at e ⊢;subst e;simp [Std_not]
  clear h1
  cbv
  repeat' (first|apply And.intro|exact fun (_:FF)=>by kernel_rfl|(intro h2;cbv)|apply Or.inl)
  any_goals exact hid
  any_goals exact hin
  ·exact h false (all_false h5 (n5 _ h2)).symm
  ·refine ⟨i+1,⟨by omega,all_take h5 ha (n5 false (by assumption))⟩,by omega,?_⟩
   (cbv;repeat' apply And.intro);all_goals try first|trivial|rfl|(rw [X.a];rfl)
 ·have h5:i=n_d:=by obtain rfl:=X.a;simp only [hlen_d,SD,bNot] at h1;omega
  subst h5
  rw [hn_d,List.take_length] at ha
  cbv
  exact h true ha.symm
theorem F13 {l:List Ch} {d:D} {K:PV→List Ob→Prop} (hd:d=encL encCh l) (hl:l.length≤4294967290) (h:∀ r,r=encL encCh (l.filter brk)→K (.lst 34 r) []):FC Tryz.prog tt 13 [] [.lst 34 d] K:=by
 refine FC.enter (G:=g13) tt_ok mixed ⟨Tryz.func13,by rfl,rfl⟩ rfl rfl rfl ?_
 intro A C L X
 obtain ⟨n_d,hn_d,hlen_d⟩:=lenOf hd
 cbv
 refine X.loopP (fun (y:Nat×D)=>⟨[(4,.int .i64 y.1),(3,.row 34 0),(0,.lst 34 d)],[.row 34 y.2 true]⟩) (fun y=>y.1≤n_d∧y.2=encL encCh ((l.take y.1).filter brk)) (fun y=>n_d-y.1) (0,A.lit []) ⟨Nat.zero_le _,by rw [X.a];rfl⟩ ?_ ?_
 ·refine ⟨[0],rfl,?_⟩
  (cbv;repeat' apply And.intro);all_goals try first|trivial|rfl|(rw [X.a];rfl)
 rintro ⟨i,e⟩ ⟨hi,he⟩
 simp only at hi he
 cbv
 refine ⟨fun h1=> ?_,fun h1=> ?_⟩
 ·have h5:i<l.length:=by obtain rfl:=X.a;simp only [hlen_d,SD,bNot] at h1;omega
  have k1:=chIsAt X.a hd h5
  have hid:A.idx (Int.ofNat i) (A.len d):=by rw [X.a,hd];exact leaf_idx h5
  have hin:A.inr .i64 (A.add (Int.ofNat i) 1):=by rw [X.a];exact leaf_inc h5 (by omega)
  have hfl:((l.take i).filter brk).length≤i:=Nat.le_trans (List.length_filter_le _ _) (by simp;omega)
  have hb2:∀ r:List D,A.bnd (A.add (A.len e) (A.len (A.lit [r]))) 4294967296:=fun r=>by
   rw [X.a,he,Std_len,Std_len_lit];exact ⟨by rw [Std_add];omega,by rw [Std_add];simp only [List.length_cons,List.length_nil];omega⟩
  have kl:=chLit X.a k1
  have qa:brk l[i]=true→A.app e (A.lit [[.int (A.asInt (A.cell d (Int.ofNat i) 0)),.str (A.asStr (A.cell d (Int.ofNat i) 1)),.str (A.asStr (A.cell d (Int.ofNat i) 2)),.int (A.asInt (A.cell d (Int.ofNat i) 3)),.int (A.asInt (A.cell d (Int.ofNat i) 4)),.bool (A.asBool (A.cell d (Int.ofNat i) 5)),.bool (A.asBool (A.cell d (Int.ofNat i) 6))]])=encL encCh ((l.take (i+1)).filter brk):=fun q=>by
   rw [kl,X.a,he,Std_app,filter_step h5,q];rfl
  have qb:brk l[i]=false→e=encL encCh ((l.take (i+1)).filter brk):=fun q=>by
   rw [he,filter_step h5,q];simp
  obtain ⟨_,_,_,_,_,k5,k6⟩:=k1
  have n5:∀ b,A.not (A.asBool (A.cell d (Int.ofNat i) 5))=b→l[i].ca= !b:=fun b e=>by rw [← k5];rw [X.a] at e ⊢;subst e;simp [Std_not]
  have n6:∀ b,A.not (A.asBool (A.cell d (Int.ofNat i) 6))=b→l[i].im= !b:=fun b e=>by rw [← k6];rw [X.a] at e ⊢;subst e;simp [Std_not]
  clear h1
  cbv
  repeat' (first|apply And.intro|exact fun (_:FF)=>by kernel_rfl|(intro h2;cbv)|apply Or.inl)
  any_goals exact hid
  any_goals exact hin
  any_goals exact hb2 _
  all_goals first
   |(refine ⟨(i+1,_),⟨by simp only;omega,qa ?_⟩,by simp only;omega,[0],rfl,?_⟩
     ·first|(have z:=n5 _ (by assumption);simp [brk,z,bNot];done)|(have z:=n6 _ (by assumption);simp [brk,z,bNot];done)
     (cbv;repeat' apply And.intro);all_goals try first|trivial|rfl|(rw [X.a];rfl);done)
   |(refine ⟨(i+1,_),⟨by simp only;omega,qb ?_⟩,by simp only;omega,[0],rfl,?_⟩
     ·have z:=n5 _ (by assumption);have z2:=n6 _ (by assumption);simp [brk,z,z2,bNot]
     (cbv;repeat' apply And.intro);all_goals try first|trivial|rfl|(rw [X.a];rfl);done)
   |trace_state
 ·have h5:i=n_d:=by obtain rfl:=X.a;simp only [hlen_d,SD,bNot] at h1;omega
  subst h5
  rw [hn_d,List.take_length] at he
  cbv
  exact h _ he
theorem F36 {α:Type} {f:α→List D} {l:List α} {d:D} {K:PV→List Ob→Prop} (hd:d=encL f l) (hl:l.length<4294967296)
 (h:∀ r,r=encL f l→K (.row 34 0) [.row 34 r true]):
 FC Tryz.prog tt 36 [] [.lst 34 d] K:=by
 refine FC.enterOwn (G:=g36) tt_ok mixed ⟨Tryz.func36,by rfl,rfl⟩ rfl rfl rfl ?_
 intro A C L X
 obtain ⟨n_d,hn_d,hlen_d⟩:=lenOf hd
 cbv
 intro b hb
 cbv
 repeat' (first|apply And.intro|exact fun (_:FF)=>by kernel_rfl|(intro h2;cbv)|apply Or.inl)
 ·refine h _ ?_
  obtain rfl:=X.a
  have hb:=hb h2
  rw [Std_same,hlen_d,hn_d] at hb
  have:l=[]:=List.eq_nil_of_length_eq_zero (by simp only [Int.ofNat_eq_natCast] at hb;omega)
  rw [this];rfl
 ·obtain rfl:=X.a;simp only [SD,bNot,hlen_d];omega
 ·refine h _ ?_
  obtain rfl:=X.a
  rw [hd]
  exact Std_app (l:=[])
end Go.VC.T07
end

section
namespace Go.VC
structure DelI {α:Type} (p:α→Bool) (l m:List α) (i j:Nat):Prop where
 len:m.length=l.length
 ij:i<j
 jl:j≤l.length
 tk:m.take i=(l.take j).filter fun x=> !p x
 dr:m.drop j=l.drop j
theorem DelI.init {α:Type} {p:α→Bool} {l:List α} {i:Nat} (h:i<l.length) (ha:∀ x∈l.take i,p x=false) (hp:p l[i]=true):DelI p l l i (i+1):=by
 refine ⟨rfl,by omega,by omega,?_,rfl⟩
 rw [take_succ' h,List.filter_append,List.filter_eq_self.2 (fun x hx=>by simp [ha x hx])]
 simp [hp]
theorem DelI.at {α:Type} {p:α→Bool} {l m:List α} {i j:Nat} (h:DelI p l m i j) (hj:j<l.length):m[j]'(by rw [h.len];exact hj)=l[j]:=by
 have h1:j<m.length:=by rw [h.len];exact hj
 have:(m.drop j)[0]? =(l.drop j)[0]? :=by rw [h.dr]
 simpa [List.getElem?_drop,h1,hj] using this
theorem DelI.skip {α:Type} {p:α→Bool} {l m:List α} {i j:Nat} (h:DelI p l m i j) (hj:j<l.length) (hp:p l[j]=true):DelI p l m i (j+1):=by
 refine ⟨h.len,by have:=h.ij;omega,hj,?_,?_⟩
 ·rw [take_succ' hj,List.filter_append,←h.tk];simp [hp]
 ·have:=congrArg (List.drop 1) h.dr;simpa [List.drop_drop] using this
theorem DelI.move {α:Type} {p:α→Bool} {l m:List α} {i j:Nat} (h:DelI p l m i j) (hj:j<l.length) (hp:p l[j]=false):DelI p l (m.set i l[j]) (i+1) (j+1):=by
 have hij:=h.ij
 have him:i<m.length:=by rw [h.len];omega
 refine ⟨by simp [h.len],by omega,hj,?_,?_⟩
 ·rw [take_succ' hj,List.filter_append,←h.tk,List.take_set,take_succ' him,List.set_append_right _ _ (by simp;omega)]
  simp [hp,Nat.min_eq_left (Nat.le_of_lt him)]
 ·rw [List.drop_set_of_lt (by omega)]
  have:=congrArg (List.drop 1) h.dr;simpa [List.drop_drop] using this
theorem DelI.done {α:Type} {p:α→Bool} {l m:List α} {i j:Nat} (h:DelI p l m i j) (hj:j=l.length):m.take i=l.filter fun x=> !p x:=by
 rw [h.tk,hj,List.take_length]
theorem delEnd {α:Type} {f:α→List D} {m:List α} {i:Nat} {z:D} (h:i≤m.length):Std.part (Std.app (Std.part (encL f m) 0 (Int.ofNat i)) z) 0 (Int.ofNat i)=encL f (m.take i):=by
 simp [Std,std,encL,rowsD,h]
theorem delLen {α:Type} {f:α→List D} {m:List α} {i:Nat} {z:List D} (h:i≤m.length):Std.len (Std.app (Std.part (encL f m) 0 (Int.ofNat i)) (Std.rep (Std.sub (Std.len (encL f m)) (Int.ofNat i)) z))=Int.ofNat m.length:=by
 simp [Std,std,encL,rowsD]
 omega
end Go.VC
namespace Go.VC.T07
open Go Go.VC Go.Proofs
set_option maxRecDepth 100000
def g35:Cfg:={tt:=tt,n:=42,n0:=1,view:=[38],own:=[41],live:=[0]}
theorem F35 {l:List Ch} {d:D} {K:PV→List Ob→Prop} (hd:d=encL encCh l) (hl:l.length≤4294967290)
 (h:∀ r b,r=encL encCh (l.filter fun x=> !(x.ca&&x.im))→K (.row 34 1) [.dead,.row 34 r b]):FC Tryz.prog tt 35 [.row 34 d true] [.row 34 0,.clos 37 []] K:=by
 refine FC.enterLive (G:=g35) tt_ok mixed ⟨Tryz.func35,by rfl,rfl⟩ rfl rfl rfl ?_
 intro A C L X
 obtain ⟨n_d,hn_d,hlen_d⟩:=lenOf hd
 cbv
 refine X.call (F71 (by decide) Pr37 hd (by omega) fun r hr=> ?_)
 have hp0:∀ x:Ch,(x.ca&&x.im)=true↔(fun x:Ch=>x.ca&&x.im) x=true:=fun _=>Iff.rfl
 rcases idxF_cases (fun x:Ch=>x.ca&&x.im) l with ⟨hr1,hno⟩|⟨i0,hi0,hr1,hp1,hno⟩
 ·rw [hr1] at hr
  have e1:A.eq r (-1)=true:=by rw [X.a,Std_eq,hr];rfl
  have q:=fun b=>h d b (by rw [List.filter_eq_self.2 (fun x hx=>by have:=hno x hx;simp only [this,Bool.not_false])];exact hd)
  cbv
  repeat' (first|apply And.intro|exact fun (_:FF)=>by kernel_rfl|(intro h2;cbv)|apply Or.inl)
  ·exact q true
  all_goals exact absurd (e1.symm.trans (by assumption)) (by decide)
 have hri:r=Int.ofNat i0:=by rw [hr,hr1];rfl
 have e1:A.eq (Int.ofNat i0) (-1)=false:=by rw [X.a,Std_eq];simp
 have hin0:A.inr .i64 (A.add (Int.ofNat i0) 1):=by rw [X.a];exact leaf_inc hi0 (by omega)
 subst hri
 clear hr
 cbv
 repeat' (first|apply And.intro|exact fun (_:FF)=>by kernel_rfl|(intro h2;cbv)|apply Or.inl)
 ·exact absurd (e1.symm.trans h2) (by decide)
 ·exact hin0
 refine X.loopP (fun (y:(Nat×Nat)×D)=>⟨[(6,.int .i64 y.1.2),(5,.int .i64 y.1.1),(1,.clos 37 []),(0,.row 34 1)],[.dead,.row 34 y.2 true]⟩)
  (fun y=>∃ m,y.2=encL encCh m∧DelI (fun x:Ch=>x.ca&&x.im) l m y.1.1 y.1.2) (fun y=>n_d-y.1.2) ((i0,i0+1),d) ⟨l,hd,DelI.init hi0 hno hp1⟩ ?_ ?_
 ·refine ⟨[0,1],rfl,?_⟩
  (cbv;repeat' apply And.intro);all_goals try first|trivial|rfl|(rw [X.a];rfl)
 rintro ⟨⟨i,j⟩,e⟩ ⟨m,he,hI⟩
 simp only at he hI
 have hml:=hI.len
 have hij:=hI.ij
 have hjl:=hI.jl
 obtain ⟨n_e,hn_e,hlen_e⟩:=lenOf he
 cbv
 refine ⟨fun h1=> ?_,fun h1=> ?_⟩
 ·have h5:j<l.length:=by obtain rfl:=X.a;simp only [hlen_e,SD,bNot] at h1;omega
  have h6:j<m.length:=by omega
  have k1:=chIsAt X.a he h6
  rw [hI.at h5] at k1
  have hid:A.idx (Int.ofNat j) (A.len e):=by rw [X.a,he];exact leaf_idx h6
  have hii:A.idx (Int.ofNat i) (A.len e):=by rw [X.a,he];exact leaf_idx (by omega)
  have hin:A.inr .i64 (A.add (Int.ofNat i) 1):=by rw [X.a];exact leaf_inc (n:=l.length) (by omega) (by omega)
  have hjn:A.inr .i64 (A.add (Int.ofNat j) 1):=by rw [X.a];exact leaf_inc h5 (by omega)
  have ks:A.setc e (Int.ofNat i) 0 [.int (A.asInt (A.cell e (Int.ofNat j) 0)),.str (A.asStr (A.cell e (Int.ofNat j) 1)),.str (A.asStr (A.cell e (Int.ofNat j) 2)),.int (A.asInt (A.cell e (Int.ofNat j) 3)),.int (A.asInt (A.cell e (Int.ofNat j) 4)),.bool (A.asBool (A.cell e (Int.ofNat j) 5)),.bool (A.asBool (A.cell e (Int.ofNat j) 6))]=encL encCh (m.set i l[j]):=by
   obtain ⟨c0,c1,c2,c3,c4,c5,c6⟩:=k1
   rw [c0,c1,c2,c3,c4,c5,c6,X.a,he]
   exact Std_setc (y:=l[j]) rfl (by omega) rfl
  have hk:=hI.skip h5
  have hm:=hI.move h5
  clear h1
  cbv
  repeat' (first|apply And.intro|exact fun (_:FF)=>by kernel_rfl|(intro h2;cbv)|apply Or.inl)
  any_goals exact hid
  refine X.call (Pr37 _ _ _ _ _ _ _ _ _ k1 fun b hb=> ?_)
  have hb':b=(l[j].ca&&l[j].im):=hb
  clear hb
  have nb:∀ c,A.not b=c→(l[j].ca&&l[j].im)= !c:=fun c e=>by rw [← hb'];rw [X.a] at e;subst e;simp [Std_not]
  cbv
  repeat' (first|apply And.intro|exact fun (_:FF)=>by kernel_rfl|(intro h2;cbv)|apply Or.inl)
  any_goals exact hii
  any_goals exact hin
  any_goals exact hjn
  ·refine ⟨((i+1,j+1),_),⟨_,ks,hm (nb true (by assumption))⟩,by simp only;omega,[0,1],rfl,?_⟩
   (cbv;repeat' apply And.intro);all_goals try first|trivial|rfl|(rw [X.a];rfl)
  ·refine ⟨((i,j+1),_),⟨_,he,hk (nb false (by assumption))⟩,by simp only;omega,[0,1],rfl,?_⟩
   (cbv;repeat' apply And.intro);all_goals try first|trivial|rfl|(rw [X.a];rfl)
 ·have h5:j=l.length:=by obtain rfl:=X.a;simp only [hlen_e,SD,bNot] at h1;omega
  have hb:A.bnd (Int.ofNat i) (A.len e):=by rw [X.a,he,Std_len];show 0≤(i:Int)∧(i:Int)≤_;omega
  have hb0:A.idx 0 (A.len e):=by rw [X.a,he];exact leaf_idx (i:=0) (by omega)
  have hz:∀ z,A.part (A.app (A.part e 0 (Int.ofNat i)) z) 0 (Int.ofNat i)=encL encCh (l.filter fun x=> !(x.ca&&x.im)):=fun z=>by
   rw [X.a,he,delEnd (by omega),hI.done h5]
  have q:=fun z b=>h _ b (hz z)
  have hrl:∀ z,A.len (A.app (A.part e 0 (Int.ofNat i)) (A.rep (A.sub (A.len e) (Int.ofNat i)) z))=Int.ofNat n_e:=fun z=>by rw [X.a,he,delLen (by omega),hn_e]
  have hb1:∀ z,A.idx 0 (A.len (A.app (A.part e 0 (Int.ofNat i)) (A.rep (A.sub (A.len e) (Int.ofNat i)) z))):=fun z=>by rw [hrl,X.a];show 0≤(0:Int)∧(0:Int)<(n_e:Int);omega
  have hb2:∀ z,A.bnd (Int.ofNat i) (A.len (A.app (A.part e 0 (Int.ofNat i)) (A.rep (A.sub (A.len e) (Int.ofNat i)) z))):=fun z=>by rw [hrl,X.a];show 0≤(i:Int)∧(i:Int)≤(n_e:Int);omega
  cbv
  repeat' (first|apply And.intro|exact fun (_:FF)=>by kernel_rfl|(intro h2;cbv)|apply Or.inl)
  all_goals first|exact hb0|exact hb|exact q _ _|exact hb1 _|exact hb2 _|skip
end Go.VC.T07
end

section
namespace Go.VC.T07
open Go Go.VC Go.Proofs
set_option maxRecDepth 100000
def g12:Cfg:={tt:=tt,n:=6,keep:=[35],live:=[35]}
def g11:Cfg:={tt:=tt,n:=26,sch:=[(6,[0,1,2,3,4,5,6,7,8])]}
theorem F12 {l:List Ch} {d:D} {K:PV→List Ob→Prop} (hd:d=encL encCh l) (hl:l.length≤4294967290)
 (h:∀ r,r=encL encCh (l.filter brk)→K (.lst 34 r) []):FC Tryz.prog tt 12 [] [.lst 34 d] K:=by
 refine FC.enter (G:=g12) tt_ok mixed ⟨Tryz.func12,by rfl,rfl⟩ rfl rfl rfl ?_
 intro A C L X
 cbv
 refine X.call (F36 hd (by omega) fun r hr=> ?_)
 cbv
 refine X.call (F35 hr (by omega) fun e b he=> ?_)
 have q:=h e he
 cbv
 repeat' (first|apply And.intro|exact fun (_:FF)=>by kernel_rfl|(intro h2;cbv)|apply Or.inl)
 all_goals first|exact q|trace_state
theorem F11 {l:List Ch} {d:D} {K:PV→List Ob→Prop} (hd:d=encL encCh l) (hl:l.length≤4294967290)
 (h:K (.bool true) []):FC Tryz.prog tt 11 [] [.lst 34 d,.lst 34 d] K:=by
 refine FC.enter (G:=g11) tt_ok mixed ⟨Tryz.func11,by rfl,rfl⟩ rfl rfl rfl ?_
 intro A C L X
 obtain ⟨n_d,hn_d,hlen_d⟩:=lenOf hd
 have e1:A.not (A.eq (A.len d) (A.len d))=false:=by rw [X.a];simp [Std_eq,Std_not]
 cbv
 repeat' (first|apply And.intro|exact fun (_:FF)=>by kernel_rfl|(intro h2;first|exact absurd ((e1).symm.trans h2) (by decide)|cbv)|apply Or.inl)
 refine X.loop (fun (i:Nat)=>⟨[(13,.int .i64 i),(12,.int .i64 (A.len d)),(0,.lst 34 d),(1,.lst 34 d)],[]⟩) (fun i=>i≤n_d) (fun i=>n_d-i) 0 (Nat.zero_le _) ?_ ?_
 ·(cbv;repeat' apply And.intro);all_goals try first|trivial|rfl|(rw [X.a];rfl)
 rintro i hi
 cbv
 refine ⟨fun h1=> ?_,fun h1=> ?_⟩
 ·have h5:i<l.length:=by obtain rfl:=X.a;simp only [hlen_d,SD,bNot] at h1;omega
  have hid:A.idx (Int.ofNat i) (A.len d):=by rw [X.a,hd];exact leaf_idx h5
  have hin:A.inr .i64 (A.add (Int.ofNat i) 1):=by rw [X.a];exact leaf_inc h5 (by omega)
  clear h1
  cbv
  repeat' (first|apply And.intro|exact fun (_:FF)=>by kernel_rfl|(intro h2;cbv)|apply Or.inl)
  any_goals exact hid
  any_goals exact hin
  ·exfalso;obtain rfl:=X.a;simp [Std_eq,Std_ite,Std_not,Std_seq,Std_beq,bNot] at h2
  ·refine ⟨i+1,by omega,by omega,?_⟩
   (cbv;repeat' apply And.intro);all_goals try first|trivial|rfl|(rw [X.a];rfl)
 ·cbv
  exact h
end Go.VC.T07
end
