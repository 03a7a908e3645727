/- Part 9 of the common texts: TF. -/
import Derived.Test.YtlpanbeeckdbpaaGreatDoorPart8
import Derived.Test.YtlpanbeeckdbpaaGreatDoorPart3
set_option linter.all false
set_option maxRecDepth 100000
set_option maxHeartbeats 16000000

section
namespace Go.VC.T07
open Go Go.VC Go.Proofs
set_option maxRecDepth 100000
def g9:Cfg:={tt:=tt,n:=100,sch:=[(5,[0,1,2,3,4,5,6,7,8])],keep:=[33],own:=[28],live:=[33]}
theorem F9 {k ix dr:Int} {n t:S} {ca im:Bool} (hn:n.length≤300) (ht:t.length≤300) (hi0: -9223372036854775808≤ix) (hi1:ix≤9223372036854775807) {K:PV→List Ob→Prop} (h:K (.str (textC k n t ix dr ca im)) []):
 FC Tryz.prog tt 9 [] [chPV k n t ix dr ca im] K:=by
 refine FC.enterS (G:=g9) tt_ok mixed ⟨Tryz.func9,by rfl,rfl⟩ rfl rfl rfl ?_
 intro A C L X
 obtain ⟨dw,hdw⟩:∃ dw,dw=D.list (kwL.map encS):=⟨_,rfl⟩
 have c30:∀ K:PV→List Ob→Prop,K (.row 9 0) [.row 9 dw true]→FC Tryz.prog tt 30 [] [.str kwT] K:=fun K hk=>F30 (by decide) (by decide) (by rw [kw_fields,←hdw];exact hk)
 have hlw:A.len dw=15:=by rw [X.a,hdw];rfl
 have q0:A.lt k 0=true→k<0:=by rw [X.a];exact fun e=>of_decide_eq_true e
 have q1:A.lt k 0=false→¬k<0:=by rw [X.a];exact fun e=>of_decide_eq_false e
 have q2:A.le (A.len dw) k=true→15≤k:=by rw [hlw,X.a];exact fun e=>of_decide_eq_true e
 have q3:A.le (A.len dw) k=false→¬15≤k:=by rw [hlw,X.a];exact fun e=>of_decide_eq_false e
 have q4:∀ j,A.eq k j=true→k=j:=by rw [X.a];exact fun j e=>by simpa [Std_eq] using e
 have q5:∀ j,A.eq k j=false→¬k=j:=by rw [X.a];exact fun j e=>by simpa [Std_eq] using e
 have q6:A.lt ix 0=true→ix<0:=by rw [X.a];exact fun e=>of_decide_eq_true e
 have q7:A.lt ix 0=false→¬ix<0:=by rw [X.a];exact fun e=>of_decide_eq_false e
 have p0:k<0∨15≤k→K (.str []) []:=fun e=>by rw [textC0 e] at h;exact h
 have p1:k=6∨k=11→ix<0→K (.str []) []:=fun e e2=>by rw [textC1 e e2] at h;exact h
 have p2:k=9∨k=10∨k=11∨k=12→dr<2∨4<dr→K (.str []) []:=fun e e2=>by rw [textC2 e e2] at h;exact h
 refine X.seq ?_
 cbv
 refine X.seq ?_
 cbv
 refine X.call (c30 _ ?_)
 cbv
 refine X.mid (fun (z:D)=>⟨[(1,.box 0 0),(3,.row 9 1),(4,.mp 2)],[.box [.int .i64 k,.str n,.str t,.int .i64 ix,.int .i64 dr,.bool ca,.bool im],.row 9 dw true,.map (.int .i64) 9 z]⟩) (fun z=>z=dirD) ?_ ?_
 ·cbv
  refine ⟨dirD,rfl,[0,1,2],rfl,?_⟩
  (cbv;repeat' apply And.intro);all_goals try first|trivial|rfl|(rw [X.a];rfl)
 intro dm hdm
 obtain ⟨w,hw⟩:∃ w,w=kwL.getD k.toNat []:=⟨_,rfl⟩
 have kw:¬k<0→¬15≤k→A.asStr (A.cell dw k 0)=w:=fun a b=>by rw [X.a,hdw,kw_at (by omega) (by omega),hw]
 refine X.seq ?_
 cbv
 repeat' (first|apply And.intro|exact fun (_:FF)=>by kernel_rfl|(intro h2;cbv)|apply Or.inl)
 all_goals first
  |exact p0 (.inl (q0 (by assumption)))
  |exact p0 (.inr (q2 (by assumption)))
  |skip
 have z1:=q1 (by assumption)
 have z2:=q3 (by assumption)
 have kw:=kw z1 z2
 have kid:A.idx k (A.len dw):=by rw [hlw,X.a];exact ⟨by omega,by omega⟩
 have klit:A.lit [[.str (A.asStr (A.cell dw k 0))],[.str n]]=encL encS [w,n]:=by rw [kw,X.a];rfl
 refine X.mid (fun (z:D)=>⟨[(1,.box 0 0),(4,.mp 1),(5,.row 9 2)],[.box [.int .i64 k,.str n,.str t,.int .i64 ix,.int .i64 dr,.bool ca,.bool im],.map (.int .i64) 9 dm,.row 9 z true]⟩) (fun z=>z=encL encS [w,n]) ?_ ?_
 ·cbv
  repeat' (first|apply And.intro|exact fun (_:FF)=>by kernel_rfl|(intro h2;cbv)|apply Or.inl)
  any_goals exact kid
  refine ⟨_,klit,[0,2,3],rfl,?_⟩
  (cbv;repeat' apply And.intro);all_goals try first|trivial|rfl|(rw [X.a];rfl)
 intro d1 hd1
 clear kid klit kw c30 q0 q1 q2 q3
 -- to
 obtain ⟨l1,hl1⟩:∃ l,l=[w,n]++(if k=2 then [t] else []):=⟨_,rfl⟩
 have hb1:∀ r:List D,A.bnd (A.add (A.len d1) (A.len (A.lit [r]))) 4294967296:=fun r=>by
  rw [X.a,hd1,Std_len,Std_len_lit];exact ⟨by rw [Std_add];omega,by rw [Std_add];simp⟩
 have k1a:k=2→A.app d1 (A.lit [[.str t]])=encL encS l1:=fun e=>by rw [hl1,if_pos e,X.a,hd1];exact Std_app (k:=[t])
 have k1b:¬k=2→d1=encL encS l1:=fun e=>by rw [hl1,if_neg e,List.append_nil];exact hd1
 refine X.mid (fun (z:D)=>⟨[(1,.box 0 0),(4,.mp 1),(5,.row 9 2)],[.box [.int .i64 k,.str n,.str t,.int .i64 ix,.int .i64 dr,.bool ca,.bool im],.map (.int .i64) 9 dm,.row 9 z true]⟩) (fun z=>z=encL encS l1) ?_ ?_
 ·cbv
  repeat' (first|apply And.intro|exact fun (_:FF)=>by kernel_rfl|(intro h2;cbv)|apply Or.inl)
  any_goals exact hb1 _
  all_goals first
   |(refine ⟨_,k1a (q4 2 (by assumption)),[0,1,2],rfl,?_⟩;(cbv;repeat' apply And.intro);all_goals try first|trivial|rfl|(rw [X.a];rfl);done)
   |(refine ⟨_,k1b (q5 2 (by assumption)),[0,1,2],rfl,?_⟩;(cbv;repeat' apply And.intro);all_goals try first|trivial|rfl|(rw [X.a];rfl);done)
   |trace_state
 intro d2 hd2
 clear hb1 k1a k1b hd1
 have hl1':l1.length≤3:=by rw [hl1];split<;>simp
 -- the index
 obtain ⟨dx,hdx⟩:∃ d,d=decN ix.toNat:=⟨_,rfl⟩
 have c24:¬ix<0→∀ K:PV→List Ob→Prop,K (.str dx) []→FC Tryz.prog tt 24 [] [.int .i64 ix] K:=fun a K hk=>by
  obtain ⟨z,rfl⟩:=Int.eq_ofNat_of_zero_le (Int.not_lt.1 a)
  rw [hdx,show (z:Int).toNat=z from rfl,decN_eq] at hk;exact F24z (by omega) hi1 hk
 obtain ⟨l2,hl2⟩:∃ l,l=l1++(if k=6∨k=11 then [dx] else []):=⟨_,rfl⟩
 have hb1:∀ r:List D,A.bnd (A.add (A.len d2) (A.len (A.lit [r]))) 4294967296:=fun r=>by
  rw [X.a,hd2,Std_len,Std_len_lit];exact ⟨by rw [Std_add];omega,by rw [Std_add];simp only [List.length_cons,List.length_nil];omega⟩
 have k2a:k=6∨k=11→¬ix<0→A.app d2 (A.lit [[.str dx]])=encL encS l2∧(k=6∨k=11→¬ix<0):=fun e e2=>⟨by rw [hl2,if_pos e,X.a,hd2];exact Std_app (k:=[dx]),fun _=>e2⟩
 have k2b:¬k=6→¬k=11→d2=encL encS l2∧(k=6∨k=11→¬ix<0):=fun e e2=>⟨by rw [hl2,if_neg (by omega),List.append_nil];exact hd2,fun e3=>by omega⟩
 refine X.mid (fun (z:D)=>⟨[(1,.box 0 0),(4,.mp 1),(5,.row 9 2)],[.box [.int .i64 k,.str n,.str t,.int .i64 ix,.int .i64 dr,.bool ca,.bool im],.map (.int .i64) 9 dm,.row 9 z true]⟩) (fun z=>z=encL encS l2∧(k=6∨k=11→¬ix<0)) ?_ ?_
 ·cbv
  repeat' (first|apply And.intro|exact fun (_:FF)=>by kernel_rfl|(intro h2;cbv)|apply Or.inl|(refine X.call (c24 (q7 (by assumption)) _ ?_);cbv))
  any_goals exact hb1 _
  all_goals first
   |exact p1 (.inl (q4 6 (by assumption))) (q6 (by assumption))
   |exact p1 (.inr (q4 11 (by assumption))) (q6 (by assumption))
   |(refine ⟨_,k2a (.inl (q4 6 (by assumption))) (q7 (by assumption)),[0,1,2],rfl,?_⟩;(cbv;repeat' apply And.intro);all_goals try first|trivial|rfl|(rw [X.a];rfl);done)
   |(refine ⟨_,k2a (.inr (q4 11 (by assumption))) (q7 (by assumption)),[0,1,2],rfl,?_⟩;(cbv;repeat' apply And.intro);all_goals try first|trivial|rfl|(rw [X.a];rfl);done)
   |(refine ⟨_,k2b (q5 6 (by assumption)) (q5 11 (by assumption)),[0,1,2],rfl,?_⟩;(cbv;repeat' apply And.intro);all_goals try first|trivial|rfl|(rw [X.a];rfl);done)
   |trace_state
 rintro d3 ⟨hd3,hx3⟩
 clear hb1 k2a k2b hd2 c24
 have hl2':l2.length≤4:=by rw [hl2];split<;>simp<;>omega
 -- the direction
 obtain ⟨b4,hb4⟩:∃ b,b=([9,10,11,12].any fun s=>k==s):=⟨_,rfl⟩
 have c31:∀ K:PV→List Ob→Prop,K (.bool b4) []→FC Tryz.prog tt 31 [] [.lst 3 (A.lit [[.int 9],[.int 10],[.int 11],[.int 12]]),.int .i64 k] K:=fun K hk=>
  F31 (l:=[9,10,11,12]) (by rw [X.a];rfl) (by decide) fun b hb=>by rw [hb,←hb4];exact hk
 have hk4:b4=true↔(k=9∨k=10∨k=11∨k=12):=by rw [hb4];simp
 obtain ⟨l3,hl3⟩:∃ l,l=l2++(if k=9∨k=10∨k=11∨k=12 then [dirW dr] else []):=⟨_,rfl⟩
 have hb1:∀ r:List D,A.bnd (A.add (A.len d3) (A.len (A.lit [r]))) 4294967296:=fun r=>by
  rw [X.a,hd3,Std_len,Std_len_lit];exact ⟨by rw [Std_add];omega,by rw [Std_add];simp only [List.length_cons,List.length_nil];omega⟩
 have m0:A.mhas dm (.int dr)=false→dr<2∨4<dr:=fun e=>Classical.byContradiction fun g=>by rw [X.a,hdm,(dir_has g).1] at e;cases e
 have m1:A.mhas dm (.int dr)=true→¬(dr<2∨4<dr):=fun e g=>by rw [X.a,hdm,dir_no g] at e;cases e
 have k3a:b4=true→¬(dr<2∨4<dr)→A.app d3 (A.lit [[.str (A.asStr (A.mget dm (.int dr) 0))]])=encL encS l3∧(k=9∨k=10∨k=11∨k=12→¬(dr<2∨4<dr)):=fun e e2=>⟨by
  rw [hl3,if_pos (hk4.1 e),X.a,hd3,hdm,(dir_has e2).2];exact Std_app (k:=[dirW dr]),fun _=>e2⟩
 have k3b:b4=false→d3=encL encS l3∧(k=9∨k=10∨k=11∨k=12→¬(dr<2∨4<dr)):=fun e=>⟨by rw [hl3,if_neg (by rw [← hk4,e];simp),List.append_nil];exact hd3,fun e3=>by rw [← hk4,e] at e3;cases e3⟩
 refine X.mid (fun (z:D)=>⟨[(1,.box 0 0),(4,.mp 1),(5,.row 9 2)],[.box [.int .i64 k,.str n,.str t,.int .i64 ix,.int .i64 dr,.bool ca,.bool im],.map (.int .i64) 9 dm,.row 9 z true]⟩) (fun z=>z=encL encS l3∧(k=9∨k=10∨k=11∨k=12→¬(dr<2∨4<dr))) ?_ ?_
 ·cbv
  repeat' (first|apply And.intro|exact fun (_:FF)=>by kernel_rfl|(intro h2;cbv)|apply Or.inl|(refine X.call (c31 _ ?_);cbv))
  any_goals exact hb1 _
  all_goals first
   |(refine ⟨_,k3b (by assumption),[0,1,2],rfl,?_⟩;(cbv;repeat' apply And.intro);all_goals try first|trivial|rfl|(rw [X.a];rfl);done)
   |exact p2 (hk4.1 (by assumption)) (m0 (by assumption))
   |(refine ⟨_,k3a (by assumption) (m1 (by assumption)),[0,1,2],rfl,?_⟩;(cbv;repeat' apply And.intro);all_goals try first|trivial|rfl|(rw [X.a];rfl);done)
   |trace_state
 rintro d4 ⟨hd4,hx4⟩
 clear hb1 k3a k3b hd3 c31 m0 m1
 have hl3':l3.length≤5:=by rw [hl3];split<;>simp<;>omega
 -- whom it breaks
 obtain ⟨l4,hl4⟩:∃ l,l=l3++endW ca im:=⟨_,rfl⟩
 have hb1:∀ r:List D,A.bnd (A.add (A.len d4) (A.len (A.lit [r]))) 4294967296:=fun r=>by
  rw [X.a,hd4,Std_len,Std_len_lit];exact ⟨by rw [Std_add];omega,by rw [Std_add];simp only [List.length_cons,List.length_nil];omega⟩
 have nn:∀ x b:Bool,A.not x=b→x= !b:=fun x b e=>by rw [X.a] at e;subst e;simp [Std_not]
 have k4:∀ x,endW ca im=[x]→A.app d4 (A.lit [[.str x]])=encL encS l4:=fun x e=>by rw [hl4,e,X.a,hd4];exact Std_app (k:=[x])
 have k4a:A.not ca=true→A.not im=true→A.app d4 (A.lit [[.str eA]])=encL encS l4:=fun a b=>k4 _ (by rw [nn _ _ a,nn _ _ b];rfl)
 have k4c:A.not ca=true→A.not im=false→A.app d4 (A.lit [[.str eC]])=encL encS l4:=fun a b=>k4 _ (by rw [nn _ _ a,nn _ _ b];rfl)
 have k4i:A.not ca=false→A.not im=true→A.app d4 (A.lit [[.str eI]])=encL encS l4:=fun a b=>k4 _ (by rw [nn _ _ a,nn _ _ b];rfl)
 have k4n:A.not ca=false→A.not im=false→d4=encL encS l4:=fun a b=>by rw [hl4,nn _ _ a,nn _ _ b];show d4=encL encS (l3++[]);rw [List.append_nil];exact hd4
 refine X.mid (fun (z:D)=>⟨[(1,.box 0 0),(4,.mp 1),(5,.row 9 2)],[.box [.int .i64 k,.str n,.str t,.int .i64 ix,.int .i64 dr,.bool ca,.bool im],.map (.int .i64) 9 dm,.row 9 z true]⟩) (fun z=>z=encL encS l4) ?_ ?_
 ·cbv
  repeat' (first|apply And.intro|exact fun (_:FF)=>by kernel_rfl|(intro h2;cbv)|apply Or.inl)
  any_goals exact hb1 _
  all_goals first
   |exact absurd ((show A.not ca=false by assumption).symm.trans (show A.not ca=true by assumption)) (by decide)
   |exact absurd ((show A.not im=false by assumption).symm.trans (show A.not im=true by assumption)) (by decide)
   |(refine ⟨_,k4a (by assumption) (by assumption),[0,1,2],rfl,?_⟩;(cbv;repeat' apply And.intro);all_goals try first|trivial|rfl|(rw [X.a];rfl);done)
   |(refine ⟨_,k4c (by assumption) (by assumption),[0,1,2],rfl,?_⟩;(cbv;repeat' apply And.intro);all_goals try first|trivial|rfl|(rw [X.a];rfl);done)
   |(refine ⟨_,k4i (by assumption) (by assumption),[0,1,2],rfl,?_⟩;(cbv;repeat' apply And.intro);all_goals try first|trivial|rfl|(rw [X.a];rfl);done)
   |(refine ⟨_,k4n (by assumption) (by assumption),[0,1,2],rfl,?_⟩;(cbv;repeat' apply And.intro);all_goals try first|trivial|rfl|(rw [X.a];rfl);done)
   |trace_state
 intro d5 hd5
 clear hb1 k4 k4a k4c k4i k4n hd4
 have hl4e:l4=w::n::restW k t ix dr ca im:=by
  rw [hl4,hl3,hl2,hl1,hdx,restW]
  simp
 have hln:l4.length≤6:=by rw [hl4];unfold endW;cases ca<;>cases im<;>simp<;>omega
 rw [textC3 (by omega) hx3 hx4,←hw,←hl4e] at h
 obtain ⟨js,hjs⟩:∃ j,j=joinW l4:=⟨_,rfl⟩
 obtain ⟨l5,hl5⟩:∃ l,l=l4.filter fun s=> !(s==[]):=⟨_,rfl⟩
 rw [← hjs] at h
 have hjl:js.length≤2000:=by rw [hjs,hl4e,hw];exact joinW_len hn ht hi1
 have c33:∀ K:PV→List Ob→Prop,(∀ r b,r=encL encS l5→K (.row 9 1) [.dead,.row 9 r b])→FC Tryz.prog tt 33 [.row 9 d5 true] [.row 9 0,.clos 34 []] K:=fun K hk=>
  F33 hd5 (by omega) (by rw [← hl5];exact hk)
 have c32:∀ r,r=encL encS l5→∀ K:PV→List Ob→Prop,K (.str js) []→FC Tryz.prog tt 32 [] [.lst 9 r,.str [32]] K:=fun r hr K hk=>by
  rw [hr]
  have e:js=Lib.join l5 [32]:=by rw [hjs,hl5];rfl
  exact F32 (by rw [hl5];exact Nat.le_trans (List.length_filter_le _ _) (by omega)) (by rw [← e];omega) (by rw [← e];exact hk)
 clear hjs hl5 hjl
 refine X.run ?_
 cbv
 refine X.call (c33 _ fun r b hr=> ?_)
 cbv
 refine X.call (c32 r hr _ ?_)
 cbv
 exact h
end Go.VC.T07
end
