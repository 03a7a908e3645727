/- Part 38 of the common texts: T4. -/
import Derived.Test.YtlpanbeeckdbpaaGreatDoorPart6
import Derived.Test.YtlpanbeeckdbpaaGreatDoorPart9
import Derived.Test.YtlpanbeeckdbpaaGreatDoorPart10
import Derived.Test.YtlpanbeeckdbpaaGreatDoorPart37
set_option linter.all false
set_option maxRecDepth 100000
set_option maxHeartbeats 16000000

section
namespace Go.VC
def Ch.ok (x:Ch):Prop:= -9223372036854775808≤x.ix∧x.ix≤9223372036854775807
end Go.VC
namespace Go.VC.T07
open Go Go.VC Go.Proofs
set_option maxRecDepth 100000
def g4:Cfg:={tt:=tt,n:=51,sch:=[(10,[0,2,1,3,4])]}
theorem F4 {l:List Ch} {d:D} {K:PV→List Ob→Prop} (hd:d=encL encCh l) (hl:l.length≤4294967290) (hok:∀ x∈l,x.ok) (h:K (.bool true) []):FC Tryz.prog tt 4 [] [.lst 34 d] K:=by
 refine FC.enter (G:=g4) tt_ok mixed ⟨Tryz.func4,by rfl,rfl⟩ rfl rfl rfl ?_
 intro A C L X
 obtain ⟨n_d,hn_d,hlen_d⟩:=lenOf hd
 have hnt:A.not true=false:=by rw [X.a];rfl
 have hsq:∀ x:S,A.not (A.seq x x)=false:=by rw [X.a];exact fun x=>by simp [Std_not,Std_seq]
 have hbb:∀ x:Bool,A.beq x x=true:=by rw [X.a];exact fun x=>by simp [Std_beq]
 obtain ⟨e,he⟩:∃ e,e=encL encCh (l.filter brk):=⟨_,rfl⟩
 have hel:(l.filter brk).length≤4294967290:=Nat.le_trans (List.length_filter_le _ _) hl
 have c12:∀ K:PV→List Ob→Prop,K (.lst 34 e) []→FC Tryz.prog tt 12 [] [.lst 34 d] K:=fun K hk=>F12 hd hl fun r hr=>by rw [hr,←he];exact hk
 have c13:∀ K:PV→List Ob→Prop,K (.lst 34 e) []→FC Tryz.prog tt 13 [] [.lst 34 d] K:=fun K hk=>F13 hd hl fun r hr=>by rw [hr,←he];exact hk
 have c11:∀ K:PV→List Ob→Prop,K (.bool true) []→FC Tryz.prog tt 11 [] [.lst 34 e,.lst 34 e] K:=fun K hk=>F11 he hel hk
 obtain ⟨b1,hb1⟩:∃ b,b=l.all fun x=>x.ca:=⟨_,rfl⟩
 obtain ⟨b2,hb2⟩:∃ b,b=l.all fun x=>x.im:=⟨_,rfl⟩
 have c14:∀ K:PV→List Ob→Prop,K (.bool b1) []→FC Tryz.prog tt 14 [] [.lst 34 d] K:=fun K hk=>F14 hd (by omega) fun b hb=>by rw [hb,←hb1];exact hk
 have c15:∀ K:PV→List Ob→Prop,K (.bool b1) []→FC Tryz.prog tt 15 [] [.lst 34 d] K:=fun K hk=>F15 hd (by omega) fun b hb=>by rw [hb,←hb1];exact hk
 have c16:∀ K:PV→List Ob→Prop,K (.bool b2) []→FC Tryz.prog tt 16 [] [.lst 34 d] K:=fun K hk=>F16 hd (by omega) fun b hb=>by rw [hb,←hb2];exact hk
 have c17:∀ K:PV→List Ob→Prop,K (.bool b2) []→FC Tryz.prog tt 17 [] [.lst 34 d] K:=fun K hk=>F17 hd (by omega) fun b hb=>by rw [hb,←hb2];exact hk
 clear he hb1 hb2 hel
 cbv
 refine X.call (awake ?_)
 cbv
 repeat' (first|apply And.intro|exact fun (_:FF)=>by kernel_rfl|(intro h2;first|exact absurd ((hnt).symm.trans h2) (by decide)|cbv)|apply Or.inl)
 ·exact h
 refine X.loopP (fun (i:Nat)=>⟨[(12,.int .i64 i),(11,.int .i64 (A.len d)),(10,.lst 34 d),(0,.lst 34 d)],[]⟩) (fun i=>i≤n_d) (fun i=>n_d-i) 0 (Nat.zero_le _) ?_ ?_
 ·refine ⟨[],rfl,?_⟩
  (cbv;repeat' apply And.intro);all_goals try first|trivial|rfl|(rw [X.a];rfl)
 ·rintro i hi
  cbv
  refine ⟨fun h1=> ?_,fun h1=> ?_⟩
  ·have h5:i<l.length:=by obtain rfl:=X.a;simp only [hlen_d,SD,bNot] at h1;omega
   have hid:A.idx (Int.ofNat i) (A.len d):=by rw [X.a,hd];exact leaf_idx h5
   have hin:A.inr .i64 (A.add (Int.ofNat i) 1):=by rw [X.a];exact leaf_inc h5 (by omega)
   have k1:=chIsAt X.a hd h5
   have hix: -9223372036854775808≤A.asInt (A.cell d (Int.ofNat i) 3)∧A.asInt (A.cell d (Int.ofNat i) 3)≤9223372036854775807:=by
    rw [k1.2.2.2.1];exact hok _ (List.getElem_mem h5)
   have q1:∀ x:S,A.lt 300 (A.slen x)=false→x.length≤300:=by rw [X.a];exact fun x e=>by have:=of_decide_eq_false (p:=(300:Int)<(x.length:Int)) e;omega
   obtain ⟨r,hr⟩:∃ r,r=textC (A.asInt (A.cell d (Int.ofNat i) 0)) (A.asStr (A.cell d (Int.ofNat i) 1)) (A.asStr (A.cell d (Int.ofNat i) 2)) (A.asInt (A.cell d (Int.ofNat i) 3)) (A.asInt (A.cell d (Int.ofNat i) 4)) (A.asBool (A.cell d (Int.ofNat i) 5)) (A.asBool (A.cell d (Int.ofNat i) 6)):=⟨_,rfl⟩
   have c9:A.lt 300 (A.slen (A.asStr (A.cell d (Int.ofNat i) 1)))=false→A.lt 300 (A.slen (A.asStr (A.cell d (Int.ofNat i) 2)))=false→∀ K:PV→List Ob→Prop,K (.str r) []→FC Tryz.prog tt 9 [] [chPV (A.asInt (A.cell d (Int.ofNat i) 0)) (A.asStr (A.cell d (Int.ofNat i) 1)) (A.asStr (A.cell d (Int.ofNat i) 2)) (A.asInt (A.cell d (Int.ofNat i) 3)) (A.asInt (A.cell d (Int.ofNat i) 4)) (A.asBool (A.cell d (Int.ofNat i) 5)) (A.asBool (A.cell d (Int.ofNat i) 6))] K:=
    fun a b K hk=>F9 (q1 _ a) (q1 _ b) hix.1 hix.2 (hr▸hk)
   have c10:A.lt 300 (A.slen (A.asStr (A.cell d (Int.ofNat i) 1)))=false→A.lt 300 (A.slen (A.asStr (A.cell d (Int.ofNat i) 2)))=false→∀ K:PV→List Ob→Prop,K (.str r) []→FC Tryz.prog tt 10 [] [chPV (A.asInt (A.cell d (Int.ofNat i) 0)) (A.asStr (A.cell d (Int.ofNat i) 1)) (A.asStr (A.cell d (Int.ofNat i) 2)) (A.asInt (A.cell d (Int.ofNat i) 3)) (A.asInt (A.cell d (Int.ofNat i) 4)) (A.asBool (A.cell d (Int.ofNat i) 5)) (A.asBool (A.cell d (Int.ofNat i) 6))] K:=
    fun a b K hk=>F10 (q1 _ a) (q1 _ b) hix.2 (hr▸hk)
   have hsr:=hsq r
   clear h1 hr k1 q1 hix c11 c12 c13 c14 c15 c16 c17
   cbv
   repeat' (first|apply And.intro|exact fun (_:FF)=>by kernel_rfl|(intro h2;first|exact absurd ((hsr).symm.trans h2) (by decide)|cbv)|apply Or.inl|(refine X.call (c9 (by assumption) (by assumption) _ ?_);cbv)|(refine X.call (c10 (by assumption) (by assumption) _ ?_);cbv))
   all_goals first
    |exact hid
    |exact hin
    |exact h
    |(refine ⟨i+1,by omega,by omega,[],rfl,?_⟩;(cbv;repeat' apply And.intro);all_goals try first|trivial|rfl|(rw [X.a];rfl))
    |trace_state
  ·clear h1
   have g1:=hbb b1
   have g2:=hbb b2
   have key1:K (.bool (A.beq b2 b2)) []:=by rw [g2];exact h
   cbv
   repeat' (first|apply And.intro|exact fun (_:FF)=>by kernel_rfl|(intro h2;cbv)|apply Or.inl|(refine X.call (c12 _ ?_);cbv)|(refine X.call (c13 _ ?_);cbv)|(refine X.call (c11 _ ?_);cbv)|(refine X.call (c14 _ ?_);cbv)|(refine X.call (c15 _ ?_);cbv)|(refine X.call (c16 _ ?_);cbv)|(refine X.call (c17 _ ?_);cbv))
   all_goals first
    |exact absurd (show true=false by assumption) (by decide)
    |exact h
    |exact key1
    |exact absurd (g1.symm.trans (by assumption)) (by decide)
    |exact absurd (g2.symm.trans (by assumption)) (by decide)
    |trace_state
end Go.VC.T07
end
