/- Part 13 of the common texts. -/
import Derived.Test.YtflmompnagpjeaaGreatDoorPart12
set_option linter.all false
set_option maxRecDepth 100000
set_option maxHeartbeats 16000000
open And renaming intro→bq
open Int renaming ofNat→bk,toNat_natCast→ej
open List renaming length_drop→jO,length_map→bL,length_nil→bX,length_take→cJ,map_drop→E6,map_take→vB,mem_append→bG,mem_append_right→dI,mem_of_mem_take→mq,take_of_length_le→db
open Nat renaming le_refl→cg,zero_le→bB
open Or renaming inl→bE
namespace Go.VC.cG
open Go Go.VC Go.Proofs
attribute [-instance] instDrY
def IV{l:List If}{i:Nat}:Std.part (bA jJ l) (Std.add (bk i) 1) (Std.len (bA jJ l))=bA jJ (l.drop (i+1)):=by
 rw[da];have q:∀(z:List (List D))(n:Nat),(z.drop n).take (z.length-n)=z.drop n:=λz n=>db (by rw[jO];exact cg _);have:=q (l.map jJ) (i+1);rw[bL]at this;show D.list (((l.map jJ).drop ((i:Int)+1).toNat).take ((l.length:Int).toNat-((i:Int)+1).toNat))=D.list _;have e:((i:Int)+1).toNat=i+1:=by omega
 rw[e,ej,this,E6]
def g3:ea:={tt:=tt,n:=68,own:=[19,48],dV:=[6],live:=[6],qC:=[51,53,54,55,56],nh:=[11]}
def F3(aw:∀{K:PV->List Ob->Prop},K (.bool true) []->FC Tryz.prog tt 5 [] [] K){env:List IF}{de:D}(he:de=bA dC env)(ek:eH env)(eO:∀i∈env,i.fit)(o:(env.map IF.wt).sum<=268435456)(R:∀i∈env,(eL i).length<=4294967290){ctx:List Pm}{dc:D}(hc:dc=bA eU ctx)(mZ:ctx.length<=1048576)(f:∀p∈ctx,p.bound.fit/\p.name.length<=1048576){s t:Ty}(fs:s.fit)(Q:t.fit)
 (lA:∀u∈lT env ([s,t]++ctx.map Pm.bound),Wt u) (B:(lT env ([s,t]++ctx.map Pm.bound)).length<=4000000000)
 {N:Int}{a1 a2:S}{a3 a4:D}{w:Int}{b1 b2:S}{q I:D} (ha:cD s N a1 a2 a3 a4) (hb:cD t w b1 b2 q I) {K:PV->List Ob->Prop}
 (h:K (.bool true) []):
 FC Tryz.prog tt 3 [] [.lst 97 de,.lst 73 dc,dO N a1 a2 a3 a4,dO w b1 b2 q I] K:=by
 refine FC.enter (G:=g3) k9 mixed ⟨Tryz.func3,by rfl,rfl⟩ rfl rfl rfl ?_;intro A C L X;have Y:=fz X.a;have c:A.not true=false:=by rw[Y];rfl
 have g:A.not false=true:=by rw[Y];rfl
 have T:A.lit [[.int N,.str a1,.str a2,a3,a4],[.int w,.str b1,.str b2,q,I]]=bA cq [s,t]:=by obtain⟨rfl,rfl,rfl,rfl,rfl⟩:=ha;obtain⟨rfl,rfl,rfl,rfl,rfl⟩:=hb;rw[X.a];show D.list [_,_]=D.list [cq s,cq t];rw[dk s,dk t]
 have ae:A.eq 0 0=true:=by rw[X.a];rfl
 cbv;refine X.call (aw ?_);cbv;repeat' (first|apply bq|exactλ(_:FF)=>by kernel_rfl|(intro J;first|exact absurd ((c).symm.trans J) (by decide)|cbv)|apply bE)
 refine X.call (FC.tl (F6 he ek eO o R hc mZ f T (by simp) (by simpa using⟨fs,Q⟩) lA B λb m=>?_));cases b
 ·clear m;cbv;repeat' (first|apply bq|exactλ(_:FF)=>by kernel_rfl|(intro J;first|exact absurd ((g).symm.trans J) (by decide)|cbv)|apply bE)
  exact h
 obtain⟨_,C0,hT⟩:=m rfl;have E:JH env de:=⟨he,ek,eO,o,λ_=>⟨C0,hT.len,hT.sz,λt ht=>hT.init t (by unfold lT at ht ⊢;exact dI _ (by simpa using ht)),hT.er,hT.gh⟩⟩
 obtain⟨C,V⟩:∃C,sT env ctx s t=true->JS env ctx C de dc/\s∈C/\t∈C:=by
  by_cases e:sT env ctx s t=true
  ·obtain⟨C,h⟩:=LO E hc mZ f fs Q hT (by unfold lT;simp) (by unfold lT;simp) (λp hp=>by unfold lT;simp;exact .inr (.inr (.inl ⟨p,hp,rfl⟩))) e;exact⟨C,λ_=>h⟩
  ·exact⟨[],λh=>absurd h e⟩
 clear hT;cbv;repeat' (first|apply bq|exactλ(_:FF)=>by kernel_rfl|(intro J;first|exact absurd ((c).symm.trans J) (by decide)|cbv)|apply bE)
 have q0:K (.bool (A.eq (A.len (.list [])) 0)) []:=by rw[X.a];exact h
 clear m;refine X.call (FC.tl (F7 E hc mZ f fs Q V ha hb (λe=>?_) λe e2 d O=>?_))
 ·cbv;repeat' (first|apply bq|exactλ(_:FF)=>by kernel_rfl|(intro J;first|exact absurd ((g).symm.trans J) (by decide)|exact absurd ((c).symm.trans J) (by decide)|cbv)|apply bE)
  all_goals first|exact h|exact q0
 obtain⟨P,F,y⟩:=V e;obtain⟨f1,f2,f3,f4⟩:=Eg P.hC (j:=(s,t)) F y e2;have f5:=λi hi=>Jj P.hC (j:=(s,t)) F y e2 (i:=i) hi;obtain⟨l,hl⟩:∃l,l=wv env ctx (s,t):=⟨_,rfl⟩;rw[<- hl]at O f1 f2 f3 f4 f5;clear q0 lA B f2 f3;obtain⟨r,ag,a⟩:=lenOf O;have ad:0<l.length:=by obtain⟨n,x,e⟩:=f1;rw[e];simp
 have U:A.lt 0 (A.len d)=true:=by rw[X.a,a];simp only[SD,dL];omega
 have q1:K (.bool (A.lt 0 (A.len d))) []:=by rw[U];exact h
 have v:A.lt 40 (A.len d)=false->l.length<=40:=by rw[X.a,a];simp only[SD,dL];omega
 cbv;repeat' (first|apply bq|exactλ(_:FF)=>by kernel_rfl|(intro J;first|exact absurd ((g).symm.trans J) (by decide)|exact absurd ((c).symm.trans J) (by decide)|cbv)|apply bE)
 all_goals try first|exact h|exact absurd (show true=false by assumption) (by decide)
 have v:=v (by assumption);refine X.j0 (λ(i:Nat)=>⟨[(45,.int .i64 i),(44,.int .i64 (A.len d)),(9,.lst 60 d),(0,.lst 97 de),(1,.lst 73 dc),(6,.box 0 0),(7,.box 1 0)],[.box [.int .i64 N,.str a1,.str a2,.lst 29 a3,.lst 57 a4],.box [.int .i64 w,.str b1,.str b2,.lst 29 q,.lst 57 I]]⟩) (λi=>i<=r) (λi=>r-i) 0 (bB _) ?_ ?_
 ·refine⟨[0,1],rfl,?_⟩
  (cbv;repeat' apply bq);all_goals try first|trivial|rfl|(rw[X.a];rfl)
 intro i hi;cbv;refine⟨λh1=>?_,λh1=>?_⟩
 ·have h5:i<l.length:=by obtain rfl:=X.a;simp only[a,SD,dL]at h1;omega
  have H:A.inr .i64 (A.add (bk i) 1):=by rw[X.a];exact fm h5 (by omega)
  have e1:A.len (.list [])=0:=by rw[X.a];rfl
  have g1:A.gh (bk i) (A.len d):=by rw[X.a,a];simp only[SD,dL];omega
  have g2:A.gh 0 (bk i):=by rw[X.a];simp only[SD,dL];omega
  have g3:A.gh (A.len d) (A.len d):=by rw[X.a,a];simp only[SD,dL];omega
  have g4:A.gh (A.add (bk i) 1) (A.len d):=by rw[X.a,a];simp only[SD,dL];omega
  have p0:A.lit []=bA jJ []:=by rw[X.a];rfl
  have p1:A.part d 0 (bk i)=bA jJ (l.take i):=by rw[X.a,O];simp only[SD,dL];simp[bA,vB]
  have p2:A.part d (A.add (bk i) 1) (A.len d)=bA jJ (l.drop (i+1)):=by rw[X.a,O];exact IV
  have p3:A.app (A.lit []) (A.part d 0 (bk i))=bA jJ (l.take i):=by rw[p0,p1,X.a];exact cB (l:=[]) (k:=l.take i)
  have W:A.app (A.app (A.lit []) (A.part d 0 (bk i))) (A.part d (A.add (bk i) 1) (A.len d))=bA jJ (l.take i++l.drop (i+1)):=by rw[p3,p2,X.a];exact cB
  have g5:A.gh (A.add (A.len (A.lit [])) (A.len (A.part d 0 (bk i)))) 4294967296:=by rw[p0,p1,X.a];simp only[SD,dL,cJ,bX];omega
  have g6:A.gh (A.add (A.len (A.app (A.lit []) (A.part d 0 (bk i)))) (A.len (A.part d (A.add (bk i) 1) (A.len d)))) 4294967296:=by rw[p3,p2,X.a];simp only[SD,dL,cJ,jO];omega
  clear h1 p0 p1 p2 p3 e1;cbv;refine X.cut (λ(z:D)=>⟨[(45,.int .i64 i),(44,.int .i64 (A.len d)),(12,.row 60 2),(9,.lst 60 d),(0,.lst 97 de),(1,.lst 73 dc),(6,.box 0 0),(7,.box 1 0)],[.box [.int .i64 N,.str a1,.str a2,.lst 29 a3,.lst 57 a4],.box [.int .i64 w,.str b1,.str b2,.lst 29 q,.lst 57 I],.row 60 z true]⟩) (λz=>z=bA jJ (l.take i++l.drop (i+1))) ?_ ?_
  ·cbv;repeat' (first|apply bq|exactλ(_:FF)=>by kernel_rfl|(intro J;cbv)|apply bE)
   all_goals try first|exact H|exact g1|exact g2|exact g3|exact g4|exact g5|exact g6
   all_goals (refine⟨_,W,[0,1,2],rfl,?_⟩;(cbv;repeat' apply bq);all_goals try first|trivial|rfl|(rw[X.a];rfl))
  clear g1 g2 g3 g4 g5 g6 W;intro z hz;cbv;refine X.call (FC.tl (F8 E hc mZ f fs Q V hz (by simp;omega) (λ_ x M=>f4 x ?_) ha hb λb m=>?_))
  ·rcases bG.1 M with M|M
   ·exact mq M
   ·exact List.mem_of_mem_drop M
  rw[f5 i h5]at m;cases b
  ·cbv;repeat' (first|apply bq|exactλ(_:FF)=>by kernel_rfl|(intro J;cbv)|apply bE)
   all_goals try exact H
   all_goals first
    |exact absurd (show false=true by assumption) (by decide)
    |(refine⟨i+1,by omega,by omega,[0,1],rfl,?_⟩;(cbv;repeat' apply bq);all_goals try first|trivial|rfl|(rw[X.a];rfl))
    |trace_state
  ·cases m
 ·clear h1;cbv;repeat' (first|apply bq|exactλ(_:FF)=>by kernel_rfl|(intro J;cbv)|apply bE)
  exact q1
end Go.VC.cG
