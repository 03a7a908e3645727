/- Part 10 of the common texts: TG. -/
import Derived.Test.YtlpanbeeckdbpaaGreatDoorPart8
import Derived.Test.YtlpanbeeckdbpaaGreatDoorPart3
set_option linter.all false
set_option maxRecDepth 100000
set_option maxHeartbeats 16000000

section
namespace Go.VC
def dirsL:List S:=[[],[],dN,dW,dR]
theorem dirs_at {dr:Int} (h:¬(dr<2∨4<dr)):Std.asStr (Std.cell (.list (dirsL.map encS)) dr 0)=dirW dr:=by
 have:dr=2∨dr=3∨dr=4:=by omega
 rcases this with rfl|rfl|rfl<;>rfl
def LB (x:S) (n:Nat):Prop:=x.length≤n
theorem lb {x y:S} {a b:Nat} (h:LB x a) (k:LB y b):LB (Std.sapp x y) (a+b):=by
 unfold LB at*
 show (x++y).length≤_
 rw [List.length_append];omega
theorem lbS {x y:S} {a b:Nat} (h:LB x a) (k:LB y b) (hab:a+b≤4096):Std.inr .i64 (Std.add (Std.slen x) (Std.slen y)):=by
 unfold LB at*
 show -9223372036854775808≤(x.length:Int)+(y.length:Int)∧(x.length:Int)+(y.length:Int)≤9223372036854775807
 omega
theorem addW_lb {s x:S} {a b:Nat} (h:LB s a) (k:LB x b):LB (addW s x) (a+(1+b)):=by
 unfold LB at *;unfold addW;split
 ·omega
 ·simp;omega
theorem addW_ne {s x:S} (h:x≠[]):Std.sapp (Std.sapp s [32]) x=addW s x:=by
 rw [addW,if_neg h];show (s++[32])++x=_;simp
theorem addW_e {s x:S} (h:x=[]):s=addW s x:=by rw [addW,if_pos h]
theorem dirW_ne (dr:Int):dirW dr≠[]:=by unfold dirW;split<;>(try split)<;>decide
theorem textC_fold {k:Int} {n t:S} {ix dr:Int} {ca im:Bool} (h:¬(k<0∨15≤k)) (h2:k=6∨k=11→¬ix<0) (h3:k=9∨k=10∨k=11∨k=12→¬(dr<2∨4<dr)) {w s1 s2 s3 s4:S}
 (hw:w=kwL.getD k.toNat []) (e1:s1=addW w n) (e2:s2=if k=2 then addW s1 t else s1) (e3:s3=if k=6∨k=11 then addW s2 (decN ix.toNat) else s2)
 (e4:s4=if k=9∨k=10∨k=11∨k=12 then addW s3 (dirW dr) else s3):textC k n t ix dr ca im=(endW ca im).foldl addW s4:=by
 rw [textC3 h h2 h3,joinW_c (kw_ne (by omega) (by omega)),List.foldl_cons,restW,List.foldl_append,List.foldl_append,List.foldl_append,←hw,←e1]
 have a2:List.foldl addW s1 (if k=2 then [t] else [])=s2:=by rw [e2];split<;>rfl
 have a3:List.foldl addW s2 (if k=6∨k=11 then [decN ix.toNat] else [])=s3:=by rw [e3];split<;>rfl
 have a4:List.foldl addW s3 (if k=9∨k=10∨k=11∨k=12 then [dirW dr] else [])=s4:=by rw [e4];split<;>rfl
 rw [a2,a3,a4]
end Go.VC
namespace Go.VC.T07
open Go Go.VC Go.Proofs
set_option maxRecDepth 100000
def g10:Cfg:={tt:=tt,n:=119}
theorem F10 {k ix dr:Int} {n t:S} {ca im:Bool} (hn:n.length≤300) (ht:t.length≤300) (hi1:ix≤9223372036854775807) {K:PV→List Ob→Prop} (h:K (.str (textC k n t ix dr ca im)) []):
 FC Tryz.prog tt 10 [] [chPV k n t ix dr ca im] K:=by
 refine FC.enterS (G:=g10) tt_ok mixed ⟨Tryz.func10,by rfl,rfl⟩ rfl rfl rfl ?_
 intro A C L X
 have sA:∀ {x y:S} {a b:Nat},LB x a→LB y b→a+b≤4096→A.inr .i64 (A.add (A.slen x) (A.slen y)):=by rw [X.a];exact fun h k=>lbS h k
 have lA:∀ {x y:S} {a b:Nat},LB x a→LB y b→LB (A.sapp x y) (a+b):=by rw [X.a];exact fun h k=>lb h k
 have lone:LB [32] 1:=Nat.le_refl _
 have q4:∀ j,A.eq k j=true→k=j:=by rw [X.a];exact fun j e=>by simpa [Std_eq] using e
 have q5:∀ j,A.eq k j=false→¬k=j:=by rw [X.a];exact fun j e=>by simpa [Std_eq] using e
 have q6:A.lt ix 0=true→ix<0:=by rw [X.a];exact fun e=>of_decide_eq_true e
 have q7:A.lt ix 0=false→¬ix<0:=by rw [X.a];exact fun e=>of_decide_eq_false e
 have qn:∀ x:S,A.not (A.seq x [])=true→x≠[]:=by rw [X.a];exact fun x e=>by simpa [Std_not,Std_seq] using e
 have qe:∀ x:S,A.not (A.seq x [])=false→x=[]:=by rw [X.a];exact fun x e=>by simpa [Std_not,Std_seq] using e
 have p0:k<0∨15≤k→K (.str []) []:=fun e=>by rw [textC0 e] at h;exact h
 have p1:k=6∨k=11→ix<0→K (.str []) []:=fun e e2=>by rw [textC1 e e2] at h;exact h
 have p2:k=9∨k=10∨k=11∨k=12→dr<2∨4<dr→K (.str []) []:=fun e e2=>by rw [textC2 e e2] at h;exact h
 have aA:∀ {s x:S},x≠[]→A.sapp (A.sapp s [32]) x=addW s x:=by rw [X.a];exact fun e=>addW_ne e
 refine X.seq ?_
 cbv
 refine X.mid (fun (z:D)=>⟨[(1,.box 0 0),(3,.lsf 9 z)],[.box [.int .i64 k,.str n,.str t,.int .i64 ix,.int .i64 dr,.bool ca,.bool im]]⟩) (fun z=>z=D.list (kwL.map encS)) ?_ ?_
 ·cbv
  refine ⟨D.list (kwL.map encS),rfl,[0],rfl,?_⟩
  (cbv;repeat' apply And.intro);all_goals try first|trivial|rfl|(rw [X.a];rfl)
 intro dw hdw
 have hlw:A.len dw=15:=by rw [X.a,hdw];rfl
 have q0:A.lt k 0=true→k<0:=by rw [X.a];exact fun e=>of_decide_eq_true e
 have q1:A.lt k 0=false→¬k<0:=by rw [X.a];exact fun e=>of_decide_eq_false e
 have q2:A.le (A.len dw) k=true→15≤k:=by rw [hlw,X.a];exact fun e=>of_decide_eq_true e
 have q3:A.le (A.len dw) k=false→¬15≤k:=by rw [hlw,X.a];exact fun e=>of_decide_eq_false e
 refine X.mid (fun (z:D)=>⟨[(1,.box 0 0),(3,.lsf 9 dw),(4,.lsf 9 z)],[.box [.int .i64 k,.str n,.str t,.int .i64 ix,.int .i64 dr,.bool ca,.bool im]]⟩) (fun z=>z=D.list (dirsL.map encS)) ?_ ?_
 ·cbv
  refine ⟨D.list (dirsL.map encS),rfl,[0],rfl,?_⟩
  (cbv;repeat' apply And.intro);all_goals try first|trivial|rfl|(rw [X.a];rfl)
 intro dd hdd
 obtain ⟨w,hw⟩:∃ w,w=kwL.getD k.toNat []:=⟨_,rfl⟩
 have kw:¬k<0→¬15≤k→A.asStr (A.cell dw k 0)=w:=fun a b=>by rw [X.a,hdw,kw_at (by omega) (by omega),hw]
 refine X.seq ?_
 cbv
 repeat' (first|apply And.intro|exact fun (_:FF)=>by kernel_rfl|(intro h2;cbv)|apply Or.inl)
 all_goals first
  |exact p0 (.inl (q0 (by assumption)))
  |exact p0 (.inr (q2 (by assumption)))
  |skip
 have z1:=q1 (by assumption)
 have z2:=q3 (by assumption)
 have kw:=kw z1 z2
 have kid:A.idx k (A.len dw):=by rw [hlw,X.a];exact ⟨by omega,by omega⟩
 have hlw0:LB w 10:=by rw [hw];exact kw_lb _
 refine X.mid (fun (z:S)=>⟨[(1,.box 0 0),(4,.lsf 9 dd),(5,.str z)],[.box [.int .i64 k,.str n,.str t,.int .i64 ix,.int .i64 dr,.bool ca,.bool im]]⟩) (fun z=>z=w) ?_ ?_
 ·cbv
  repeat' (first|apply And.intro|exact fun (_:FF)=>by kernel_rfl|(intro h2;cbv)|apply Or.inl)
  any_goals exact kid
  refine ⟨_,kw,[0],rfl,?_⟩
  (cbv;repeat' apply And.intro);all_goals try first|trivial|rfl|(rw [X.a];rfl)
 rintro z0 hz0
 subst hz0
 clear kid kw q0 q1 q2 q3 hlw
 -- the name
 have hn':LB n 300:=hn
 have ht':LB t 300:=ht
 obtain ⟨s1,hs1⟩:∃ s,s=addW z0 n:=⟨_,rfl⟩
 have lb1:LB s1 311:=hs1▸addW_lb hlw0 hn'
 have k1a:A.not (A.seq n [])=true→A.sapp (A.sapp z0 [32]) n=s1:=fun e=>by rw [hs1];exact aA (qn n e)
 have k1b:A.not (A.seq n [])=false→z0=s1:=fun e=>by rw [hs1];exact addW_e (qe n e)
 refine X.mid (fun (z:S)=>⟨[(1,.box 0 0),(4,.lsf 9 dd),(5,.str z)],[.box [.int .i64 k,.str n,.str t,.int .i64 ix,.int .i64 dr,.bool ca,.bool im]]⟩) (fun z=>z=s1) ?_ ?_
 ·cbv
  repeat' (first|apply And.intro|exact fun (_:FF)=>by kernel_rfl|(intro h2;cbv)|apply Or.inl)
  any_goals (apply sA<;>first|decide|repeat' (first|exact hn'|exact hlw0|exact lone|apply lA))
  all_goals first
   |(refine ⟨_,k1a (by assumption),[0],rfl,?_⟩;(cbv;repeat' apply And.intro);all_goals try first|trivial|rfl|(rw [X.a];rfl))
   |(refine ⟨_,k1b (by assumption),[0],rfl,?_⟩;(cbv;repeat' apply And.intro);all_goals try first|trivial|rfl|(rw [X.a];rfl))
 intro z1' hz1
 subst hz1
 clear k1a k1b
 -- to
 obtain ⟨s2,hs2⟩:∃ s,s=if k=2 then addW z1' t else z1':=⟨_,rfl⟩
 have lb2:LB s2 612:=by rw [hs2];split;exact addW_lb lb1 ht';exact Nat.le_trans lb1 (by decide)
 have k2a:k=2→A.not (A.seq t [])=true→A.sapp (A.sapp z1' [32]) t=s2:=fun e e2=>by rw [hs2,if_pos e];exact aA (qn t e2)
 have k2b:k=2→A.not (A.seq t [])=false→z1'=s2:=fun e e2=>by rw [hs2,if_pos e];exact addW_e (qe t e2)
 have k2c:¬k=2→z1'=s2:=fun e=>by rw [hs2,if_neg e]
 refine X.mid (fun (z:S)=>⟨[(1,.box 0 0),(4,.lsf 9 dd),(5,.str z)],[.box [.int .i64 k,.str n,.str t,.int .i64 ix,.int .i64 dr,.bool ca,.bool im]]⟩) (fun z=>z=s2) ?_ ?_
 ·cbv
  repeat' (first|apply And.intro|exact fun (_:FF)=>by kernel_rfl|(intro h2;cbv)|apply Or.inl)
  any_goals (apply sA<;>first|decide|repeat' (first|exact ht'|exact lb1|exact lone|apply lA))
  all_goals first
   |(refine ⟨_,k2a (q4 2 (by assumption)) (by assumption),[0],rfl,?_⟩;(cbv;repeat' apply And.intro);all_goals try first|trivial|rfl|(rw [X.a];rfl))
   |(refine ⟨_,k2b (q4 2 (by assumption)) (by assumption),[0],rfl,?_⟩;(cbv;repeat' apply And.intro);all_goals try first|trivial|rfl|(rw [X.a];rfl))
   |(refine ⟨_,k2c (q5 2 (by assumption)),[0],rfl,?_⟩;(cbv;repeat' apply And.intro);all_goals try first|trivial|rfl|(rw [X.a];rfl))
 intro z2' hz2
 subst hz2
 clear k2a k2b k2c
 -- the index
 obtain ⟨dx,hdx⟩:∃ d,d=decN ix.toNat:=⟨_,rfl⟩
 have lbx:LB dx 19:=by rw [hdx];exact decN_len 18 _ (by omega)
 have c25:¬ix<0→∀ K:PV→List Ob→Prop,K (.str dx) []→FC Tryz.prog tt 25 [] [.int .i64 ix] K:=fun a K hk=>by
  obtain ⟨z,rfl⟩:=Int.eq_ofNat_of_zero_le (Int.not_lt.1 a)
  rw [hdx,show (z:Int).toNat=z from rfl] at hk;exact F25 18 z (by omega) (by decide) hk (by omega)
 obtain ⟨s3,hs3⟩:∃ s,s=if k=6∨k=11 then addW z2' dx else z2':=⟨_,rfl⟩
 have lb3:LB s3 632:=by rw [hs3];split;exact addW_lb lb2 lbx;exact Nat.le_trans lb2 (by decide)
 have k3a:k=6∨k=11→¬ix<0→A.sapp (A.sapp z2' [32]) dx=s3∧(k=6∨k=11→¬ix<0):=fun e e2=>⟨by rw [hs3,if_pos e];exact aA (by rw [hdx];exact decN_ne _),fun _=>e2⟩
 have k3b:¬k=6→¬k=11→z2'=s3∧(k=6∨k=11→¬ix<0):=fun e e2=>⟨by rw [hs3,if_neg (by omega)],fun e3=>by omega⟩
 refine X.mid (fun (z:S)=>⟨[(1,.box 0 0),(4,.lsf 9 dd),(5,.str z)],[.box [.int .i64 k,.str n,.str t,.int .i64 ix,.int .i64 dr,.bool ca,.bool im]]⟩) (fun z=>z=s3∧(k=6∨k=11→¬ix<0)) ?_ ?_
 ·cbv
  repeat' (first|apply And.intro|exact fun (_:FF)=>by kernel_rfl|(intro h2;cbv)|apply Or.inl|(refine X.call (c25 (q7 (by assumption)) _ ?_);cbv))
  any_goals (apply sA<;>first|decide|repeat' (first|exact lbx|exact lb2|exact lone|apply lA))
  all_goals first
   |exact p1 (.inl (q4 6 (by assumption))) (q6 (by assumption))
   |exact p1 (.inr (q4 11 (by assumption))) (q6 (by assumption))
   |(refine ⟨_,k3a (.inl (q4 6 (by assumption))) (q7 (by assumption)),[0],rfl,?_⟩;(cbv;repeat' apply And.intro);all_goals try first|trivial|rfl|(rw [X.a];rfl))
   |(refine ⟨_,k3a (.inr (q4 11 (by assumption))) (q7 (by assumption)),[0],rfl,?_⟩;(cbv;repeat' apply And.intro);all_goals try first|trivial|rfl|(rw [X.a];rfl))
   |(refine ⟨_,k3b (q5 6 (by assumption)) (q5 11 (by assumption)),[0],rfl,?_⟩;(cbv;repeat' apply And.intro);all_goals try first|trivial|rfl|(rw [X.a];rfl))
 rintro z3' ⟨hz3,hx3⟩
 subst hz3
 clear k3a k3b c25
 -- the direction
 have r0:A.lt dr 2=true→dr<2:=by rw [X.a];exact fun e=>of_decide_eq_true e
 have r1:A.lt dr 2=false→¬dr<2:=by rw [X.a];exact fun e=>of_decide_eq_false e
 have r2:A.lt 4 dr=true→4<dr:=by rw [X.a];exact fun e=>of_decide_eq_true e
 have r3:A.lt 4 dr=false→¬4<dr:=by rw [X.a];exact fun e=>of_decide_eq_false e
 obtain ⟨b4,hb4⟩:∃ b:Prop,b=(k=9∨k=10∨k=11∨k=12):=⟨_,rfl⟩
 have g9:k=9→b4:=fun e=>by rw [hb4];omega
 have g10:k=10→b4:=fun e=>by rw [hb4];omega
 have g11:k=11→b4:=fun e=>by rw [hb4];omega
 have g12:k=12→b4:=fun e=>by rw [hb4];omega
 have p2:b4→dr<2∨4<dr→K (.str []) []:=fun e=>p2 (hb4▸e)
 obtain ⟨s4,hs4⟩:∃ s,s=if k=9∨k=10∨k=11∨k=12 then addW z3' (dirW dr) else z3':=⟨_,rfl⟩
 have lb4:LB s4 641:=by rw [hs4];split;exact addW_lb lb3 (dirW_len dr);exact Nat.le_trans lb3 (by decide)
 have hdv:¬(dr<2∨4<dr)→A.asStr (A.cell dd dr 0)=dirW dr:=fun e=>by rw [X.a,hdd,dirs_at e]
 have lbd:¬dr<2→¬4<dr→LB (A.asStr (A.cell dd dr 0)) 8:=fun a b=>by rw [hdv (by omega)];exact dirW_len dr
 have did:¬dr<2→¬4<dr→A.idx dr (A.len dd):=fun a b=>by rw [X.a,hdd];exact ⟨by omega,by show dr<5;omega⟩
 have k4a:b4→¬dr<2→¬4<dr→A.sapp (A.sapp z3' [32]) (A.asStr (A.cell dd dr 0))=s4∧(k=9∨k=10∨k=11∨k=12→¬(dr<2∨4<dr)):=fun e a b=>
  ⟨by rw [hs4,if_pos (hb4▸e),hdv (by omega)];exact aA (dirW_ne _),fun _=>by omega⟩
 have k4b:¬k=9→¬k=10→¬k=11→¬k=12→z3'=s4∧(k=9∨k=10∨k=11∨k=12→¬(dr<2∨4<dr)):=fun a b c d=>⟨by rw [hs4,if_neg (by omega)],fun e3=>by omega⟩
 refine X.mid (fun (z:S)=>⟨[(1,.box 0 0),(4,.lsf 9 dd),(5,.str z)],[.box [.int .i64 k,.str n,.str t,.int .i64 ix,.int .i64 dr,.bool ca,.bool im]]⟩) (fun z=>z=s4∧(k=9∨k=10∨k=11∨k=12→¬(dr<2∨4<dr))) ?_ ?_
 ·cbv
  repeat' (first|apply And.intro|exact fun (_:FF)=>by kernel_rfl|(intro h2;cbv)|apply Or.inl)
  all_goals first
   |(refine ⟨_,k4b (q5 9 (by assumption)) (q5 10 (by assumption)) (q5 11 (by assumption)) (q5 12 (by assumption)),[0],rfl,?_⟩;(cbv;repeat' apply And.intro);all_goals try first|trivial|rfl|(rw [X.a];rfl))
   |(have hb:b4:=by first|exact g9 (q4 9 (by assumption))|exact g10 (q4 10 (by assumption))|exact g11 (q4 11 (by assumption))|exact g12 (q4 12 (by assumption))
     first
      |exact p2 hb (.inl (r0 (by assumption)))
      |exact p2 hb (.inr (r2 (by assumption)))
      |(have y1:=r1 (by assumption)
        have y2:=r3 (by assumption)
        first
         |exact did y1 y2
         |(refine ⟨_,k4a hb y1 y2,[0],rfl,?_⟩;(cbv;repeat' apply And.intro);all_goals try first|trivial|rfl|(rw [X.a];rfl))
         |(apply sA<;>first|decide|repeat' (first|exact lb3|exact lbd y1 y2|exact lone|apply lA))))
   |trace_state
 rintro z4' ⟨hz4,hx4⟩
 subst hz4
 clear k4a k4b did lbd hdv r0 r1 r2 r3 g9 g10 g11 g12 p2 p1
 rw [textC_fold (by omega) hx3 hx4 hw hs1 hs2 (hdx▸hs3) hs4] at h
 have nn:∀ x b:Bool,A.not x=b→x= !b:=fun x b e=>by rw [X.a] at e;subst e;simp [Std_not]
 have k5:∀ x,endW ca im=[x]→x≠[]→K (.str (A.sapp z4' ([32]++x))) []:=fun x e e2=>by
  rw [e] at h
  have h:K (.str (addW z4' x)) []:=h
  rw [addW,if_neg e2] at h
  rw [X.a];exact h
 have k5a:A.not ca=true→A.not im=true→K (.str (A.sapp z4' ([32]++eA))) []:=fun a b=>k5 _ (by rw [nn _ _ a,nn _ _ b];rfl) (by decide)
 have k5c:A.not ca=true→A.not im=false→K (.str (A.sapp z4' ([32]++eC))) []:=fun a b=>k5 _ (by rw [nn _ _ a,nn _ _ b];rfl) (by decide)
 have k5i:A.not ca=false→A.not im=true→K (.str (A.sapp z4' ([32]++eI))) []:=fun a b=>k5 _ (by rw [nn _ _ a,nn _ _ b];rfl) (by decide)
 have k5n:A.not ca=false→A.not im=false→K (.str z4') []:=fun a b=>by rw [nn _ _ a,nn _ _ b] at h;exact h
 clear h k5
 have la:LB ([32]++eA) 30:=by unfold LB;decide
 have lc:LB ([32]++eC) 30:=by unfold LB;decide
 have li:LB ([32]++eI) 30:=by unfold LB;decide
 have la:=sA lb4 la (by decide)
 have lc:=sA lb4 lc (by decide)
 have li:=sA lb4 li (by decide)
 refine X.run ?_
 cbv
 repeat' (first|apply And.intro|exact fun (_:FF)=>by kernel_rfl|(intro h2;cbv)|apply Or.inl)
 all_goals first
  |exact absurd ((show A.not ca=false by assumption).symm.trans (show A.not ca=true by assumption)) (by decide)
  |exact absurd ((show A.not im=false by assumption).symm.trans (show A.not im=true by assumption)) (by decide)
  |exact la
  |exact lc
  |exact li
  |exact k5a (by assumption) (by assumption)
  |exact k5c (by assumption) (by assumption)
  |exact k5i (by assumption) (by assumption)
  |exact k5n (by assumption) (by assumption)
  |trace_state
end Go.VC.T07
end
