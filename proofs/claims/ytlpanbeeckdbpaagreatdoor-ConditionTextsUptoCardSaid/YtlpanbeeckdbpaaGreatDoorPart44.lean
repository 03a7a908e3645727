/- Part 44 of the common texts: A5 T3. -/
import Derived.Test.YtlpanbeeckdbpaaGreatDoorPart43
import Derived.Test.YtlpanbeeckdbpaaGreatDoorPart6
import Derived.Test.YtlpanbeeckdbpaaGreatDoorPart7
set_option linter.all false
set_option maxRecDepth 100000
set_option maxHeartbeats 16000000

section
namespace Go.VC.T07
open Go Go.VC Go.Proofs
set_option maxRecDepth 100000
theorem awake17:FC Tryz.prog tt 5 [] [] (Is (.bool true) []):=runT (R:=rn6) (by decide +kernel)
theorem awake {K:PV→List Ob→Prop} (h:K (.bool true) []):FC Tryz.prog tt 5 [] [] K:=Is.K awake17 K h
end Go.VC.T07
end

section
namespace Go.VC.T07
open Go Go.VC Go.Proofs
def g3:Cfg:={tt:=tt,n:=26,sch:=[(5,[0,2,1,3,4,5])]}
theorem F3 {k ix:Int} {m n:S} {dp d1 d2 d3 d4:D} {s0 t0:Int} {s1 s2 t1 t2:S} {pl:Nat} (hpl:Std.len dp=(pl:Int))
 {K:PV→List Ob→Prop} (h:K (.bool true) []):FC Tryz.prog tt 3 [] [.agg [.int .i64 k,.str m,.str n,.int .i64 ix,.lst 63 dp,.int .i64 s0,.str s1,.str s2,.lst 26 d1,.lst 81 d2,.int .i64 t0,.str t1,.str t2,.lst 26 d3,.lst 81 d4]] K:=by
 refine FC.enter (G:=g3) tt_ok mixed ⟨Tryz.func3,by rfl,rfl⟩ rfl rfl rfl ?_
 intro A C L X
 have hnt:A.not true=false:=by rw [X.a];rfl
 obtain ⟨r,hr⟩:∃ r,r=textOf k m n ix pl (Std.asInt (Std.cell dp ix 1)):=⟨_,rfl⟩
 have q1:∀ x:S,A.lt 300 (A.slen x)=false→x.length≤300:=by rw [X.a];exact fun x e=>by have:=of_decide_eq_false (p:=(300:Int)<(x.length:Int)) e;omega
 have q2:A.lt 40 (A.len dp)=false→pl≤40:=by rw [X.a,hpl];exact fun e=>by have:=of_decide_eq_false (p:=(40:Int)<(pl:Int)) e;omega
 have c6:A.lt 300 (A.slen m)=false→A.lt 300 (A.slen n)=false→A.lt 40 (A.len dp)=false→∀ K:PV→List Ob→Prop,K (.str r) []→FC Tryz.prog tt 6 [] [.agg [.int .i64 k,.str m,.str n,.int .i64 ix,.lst 63 dp,.int .i64 s0,.str s1,.str s2,.lst 26 d1,.lst 81 d2,.int .i64 t0,.str t1,.str t2,.lst 26 d3,.lst 81 d4]] K:=
  fun a b c K hk=>F6 hpl (q2 c) (fun _ _=>rfl) (q1 _ a) (q1 _ b) (hr▸hk)
 have c7:A.lt 300 (A.slen m)=false→A.lt 300 (A.slen n)=false→A.lt 40 (A.len dp)=false→∀ K:PV→List Ob→Prop,K (.str r) []→FC Tryz.prog tt 7 [] [.agg [.int .i64 k,.str m,.str n,.int .i64 ix,.lst 63 dp,.int .i64 s0,.str s1,.str s2,.lst 26 d1,.lst 81 d2,.int .i64 t0,.str t1,.str t2,.lst 26 d3,.lst 81 d4]] K:=
  fun a b c K hk=>F7 hpl (q2 c) (fun _ _=>rfl) (q1 _ a) (q1 _ b) (hr▸hk)
 have key:K (.bool (A.seq r r)) []:=by rw [X.a,Std_seq,beq_self_eq_true];exact h
 cbv
 repeat' (first|apply And.intro|exact fun (_:FF)=>by kernel_rfl|(intro h2;first|exact absurd ((hnt).symm.trans h2) (by decide)|cbv)|apply Or.inl|(refine X.call (awake ?_);cbv)|(refine X.call (c6 (by assumption) (by assumption) (by assumption) _ ?_);cbv)|(refine X.call (c7 (by assumption) (by assumption) (by assumption) _ ?_);cbv))
 all_goals first|exact h|exact key
end Go.VC.T07
end
