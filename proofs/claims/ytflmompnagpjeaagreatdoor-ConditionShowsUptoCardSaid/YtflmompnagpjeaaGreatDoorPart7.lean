/- Part 7 of the common texts. -/
import Derived.Test.YtflmompnagpjeaaGreatDoorPart6
set_option linter.all false
set_option maxRecDepth 100000
set_option maxHeartbeats 16000000
open And renaming intro→bk
open Bool renaming and_eq_true→bn,eq_iff_iff→cn,false_eq_true→cA,or_assoc→vY,or_true→xz
open Decidable renaming em→pR
open Eq renaming trans→gv
open Int renaming ofNat→bj,ofNat_eq_natCast→bD,ofNat_inj→HX
open List renaming all_append→nI,all_cons→vX,append_assoc→bL,append_nil→cz,drop_eq_getElem_cons→bJ,drop_length→ch,eq_nil_of_length_eq_zero→cm,eq_of_mem_replicate→iz,getElem_append_right→F5,getElem_mem→br,length_append→bp,length_cons→bI,length_map→bA,length_nil→bZ,length_take→cF,map_append→bS,map_cons→bF,mem_append→bE,mem_cons→bx,mem_flatMap→cb,mem_map→bH,replicate→fb,replicate_succ→Od,set_cons_zero→Oq,sum_cons→bV,take_length→bz
open Nat renaming le_of_lt→KO,le_refl→bX,le_trans→bM,min_eq_left→Dy,zero_le→bw
open Option renaming map_some→cv
open Or renaming inl→bB
namespace Go.VC
def AT{t:Ty}{a:Int}{a1 a2:S}{a3 a4:D}(h:cr t a a1 a2 a3 a4):[D.int a,.str a1,.str a2,a3,a4]=ca t:=by obtain⟨rfl,rfl,rfl,rfl,rfl⟩:=h;rw[dn]
def Cx{A:pP}(ha:A=Std){l k:List Ty}{i:Nat}(h:i<k.length){n:Int}(b:n=bj (l.length+i)){d:D}(a:d=bt ca (l++k)){y:Ty}{row:List D}(hr:row=ca y):A.nK d n 0 row=bt ca (l++k.set i y):=by
 subst ha a hr;have hl:l.length+i<(l++k).length:=yQ;refine(re (i:=l.length+i) (y:=y) b hl ?_).trans ?_
 ·rw[dn,dn];rfl
 ·congr 1;simp
def KA(t:Ty):Bool:=decide (256<t.size)||decide (16<t.xa)
noncomputable def Mp(i:IF):Bool:=decide (14<(qK i).length)||(cW i).any KA
def GV:S:=[112,114,111,98,101,47,118,49]
noncomputable def Ci(env:List IF):Bool:=decide ((sG env).2.2=0)&& !(env.any λi=>i.path==GV)&& !(env.any Mp)
end Go.VC
namespace Go.VC.cc
open Go Go.VC Go.Proofs
section
variable {K:PV->List Ob->Prop}
def Vp:dH:={tt:=tt,n:=19,n0:=2,pC:=[17],ox:=[3]}
def Xn{l:List Pm}{e:D}(m:e=bt dB l)(hl:l.length<=1048576){a:List Ty}{d:D}(u:d=bt ca a)(x:a.length+l.length<=4294967290)
 (h:∀r,r=bt ca (a++l.map Pm.bound)->K (.tup []) [.box [.row 29 2],.dead,.row 29 r true]):
 FT 156 [.box [.row 29 1],.row 29 d true] [.lst 73 e,.box 0 0] K:=by
 refine el Vp Tryz.func156 λA C L X=>?_;obtain⟨c,j,b⟩:=lenOf m;cbv;refine lP X (λy=>y.1<=c/\y.2=bt ca (a++(l.take y.1).map Pm.bound)) (λy=>c-y.1) (0,d) ⟨bw _,yU u⟩ [0,1,2] (λ(y:Nat×D)=>⟨[(7,.int .i64 y.1),(6,.int .i64 (A.len e)),(5,.lst 73 e),(1,.box 0 0)],[.box [.row 29 2],.dead,.row 29 y.2 true]⟩) ?_;rintro⟨i,r⟩ ⟨z,hr⟩;simp only at z hr;cbv;constructor<;>intro h1
 ·have h5:i<l.length:=lY X.a b h1;have v:=(im X.a m h5).2.2;have s:=iX X.a m h5;have w:=jX X.a h5;have hz:A.app r (A.lit [[.int 0,.str [],.str [],.list [],.list []]])=bt ca ((a++(l.take i).map Pm.bound)++[Ty.zero]):=by rw[X.a,hr];exact cD (k:=[Ty.zero])
  have f:A.len r=bj ((a++(l.take i).map Pm.bound).length+0):=by rw[X.a,hr,dp];rfl
  have t:A.gr (A.add (A.len r) (A.len (A.lit [[.int 0,.str [],.str [],.list [],.list []]]))) 4294967296:=by rw[f,X.a];simp only[SD,bp,bA,cF];omega
  have o:A.idx (A.len r) (A.len (A.app r (A.lit [[.int 0,.str [],.str [],.list [],.list []]]))):=by rw[hz,f,X.a];exact cY (i:=(a++(l.take i).map Pm.bound).length+0) yS
  have g:=Cx X.a (k:=[Ty.zero]) (i:=0) yS f hz (AT v);have n:A.nK (A.app r (A.lit [[.int 0,.str [],.str [],.list [],.list []]])) (A.len r) 0 [.int (A.asInt (A.cell e (bj i) 2)),.str (A.bG (A.cell e (bj i) 3)),.str (A.bG (A.cell e (bj i) 4)),A.cell e (bj i) 5,A.cell e (bj i) 6]=bt ca (a++(l.take (i+1)).map Pm.bound):=by rw[g,cj h5,bS,<-bL];rfl
  clear h1 g hz f;cbv;refine⟨s,?_⟩;refine X.cut (λ(r2:D)=>⟨[(7,.int .i64 i),(6,.int .i64 (A.len e)),(5,.lst 73 e),(1,.box 0 0)],[.box [.row 29 2],.dead,.row 29 r2 true]⟩) (λr2=>r2=bt ca (a++(l.take (i+1)).map Pm.bound)) ?_ ?_
  ·cbv;repeat' (first|apply bk|exact zf|(intro J;cbv)|apply bB)
   all_goals try first|exact t|exact o
   all_goals (
    exact⟨_,n,[0,1,2],rfl,yc⟩)
  intro r2 p;refine p1 ?_;exact⟨(i+1,r2),⟨yP,p⟩,yP,[0,1,2],rfl,yc⟩
 ·have h5:i=c:=gY X.a b h1;have q:=h r (by rw[hr,h5,j,bz]);cbv;exact q
def abF{t:Ty}(c:Ty.le 4294967295 t)(hs:t.size<=4294967295){i:Int}{c1 c2:S}{e g:D}(f:cr t i c1 c2 e g)(h:∀b,b=KA t->K (.bool b) []):
 FT 158 [] [dQ i c1 c2 e g] K:=by
 refine en (cf 11) Tryz.func158 λA C L X=>?_;have a:=IV X.a;cbv;refine X.call (Xm c hs f λr hr=>?_);have e1:A.lt 256 r=decide (256<t.size):=by rw[a,hr];exact decide_eq_decide.2 yL
 have j:A.lt 256 r=true->K (.bool true) []:=λz=>h _ (by unfold KA;rw[<- e1,z];rfl);cbv;repeat' (first|apply bk|exact zf|(intro J;cbv)|apply bB|(refine X.call (Xl _ c hs f λr2 d=>?_);cbv))
 all_goals first
  |(have z:A.lt 256 r=true:=yA
    exact j z)
  |(have z:A.lt 256 r=false:=yA
    have e2:A.lt 16 r2=decide (16<t.xa):=by rw[a,d];exact decide_eq_decide.2 yL
    exact h _ (by unfold KA;rw[<- e1,<-e2,z];rfl))
  |trace_state
end
end Go.VC.cc
namespace Go.VC
def sJ{i:IF}(h:i.fit):∀t∈cW i,t.fit:=by
 intro t a;unfold cW eL fU at a;rcases bE.1 a with a|a
 ·obtain⟨x,c,a⟩:=cb.1 a;have hf:=h.t x c;rcases bE.1 a with a|a
  ·simp at a;rcases a with rfl|rfl
   ·exact hf.lo
   ·exact hf.up
  ·obtain⟨p,b,rfl⟩:=bH.1 a;exact hf.p p b
 ·obtain⟨x,c,a⟩:=cb.1 a;have hf:=h.v x c;rcases bE.1 a with a|a
  ·simp at a;subst a;exact hf.ty
  ·obtain⟨p,b,rfl⟩:=bH.1 a;exact hf.p p b
end Go.VC
namespace Go.VC.cc
open Go Go.VC Go.Proofs
def YJ:dH:={tt:=tt,n:=58,own:=[3],live:=[156],pC:=[29,30,31,50],ox:=[8,14]}
def F90{x:IF}{U:S}{c1 c2 R T:D}{K:PV->List Ob->Prop}(hx:lQ x U c1 c2 R T)(ec:x.fit)(Q:x.wt<=4294967290)
 (h:∀b,b=Mp x->K (.bool b) []):FT 90 [] [qN U c1 c2 R T] K:=by
 have ag:=hx;obtain⟨x0,G,H,az,ay⟩:=hx;have dJ:=ec.ok;have nt:=dJ.nt;have nv:=dJ.nv;have ai:(cW x).length=(x.types.flatMap eL).length+(x.values.flatMap fU).length:=by unfold cW;rw[bp]
 have au:=xG x;refine en YJ Tryz.func90 λA C L X=>?_;have ab:=IV X.a;obtain⟨s,v,c⟩:=lenOf G;obtain⟨m,F,d⟩:=lenOf H;cbv;refine X.call (TB ag dJ yO λl r hr hs hm=>?_);have hl:=CQ hs hm;have e1:A.lt 14 (A.len r)=decide (14<(qK x).length):=by rw[ab,X.a,hr,dp,hl];exact decide_eq_decide.2 yO
 have P:A.lt 14 (A.len r)=true->K (.bool true) []:=λz=>h _ (by unfold Mp;rw[<- e1,z];rfl);have q2:A.lt 14 (A.len r)=false->∀b,b=(cW x).any KA->K (.bool b) []:=λz b hb=>h _ (by unfold Mp;rw[<- e1,z,hb];rfl);cbv;refine⟨λh1=>by cbv;exact P h1,λh1=>?_⟩;have h:=q2 h1;clear P q2 e1 hl hm hs hr h1;cbv;refine lP X (λy=>y.1<=s/\y.2=bt ca ((x.types.take y.1).flatMap eL)) (λy=>s-y.1) (0,A.lit []) ⟨bw _,yX⟩ [0,1,2] (λ(y:Nat×D)=>⟨[(17,.int .i64 y.1),(16,.int .i64 (A.len c1)),(15,.lst 136 c1),(4,.cu 156 [.box 2 0]),(3,.box 2 0),(1,.box 0 0)],[.box [.str U,.lst 136 c1,.lst 91 c2,.lst 210 R,.lst 213 T],.row 29 y.2 true,.box [.row 29 1]]⟩) ?_;rintro⟨i,r⟩ ⟨hi,hr⟩;simp only at hi hr;cbv;constructor<;>intro h1
 ·have h5:i<x.types.length:=lY X.a c h1;obtain⟨k0,k1,k2,k3⟩:=mQ X.a G h5;have M:=iX X.a G h5;have am:=jX X.a h5;have aa:=kY (f:=eL) h5;have j:=fu (f:=eL) h5;have aj:(eL x.types[i]).length=2+x.types[i].params.length:=by unfold eL;simp;omega
  have N:=(ec.t _ (br h5)).np;obtain⟨w,Q⟩:∃w,w=(x.types.take i).flatMap eL:=⟨_,rfl⟩;rw[<- Q]at hr aa j;have hz:A.app r (A.lit [[.int 0,.str [],.str [],.list [],.list []],[.int 0,.str [],.str [],.list [],.list []]])=bt ca (w++[Ty.zero,Ty.zero]):=by rw[X.a,hr];exact cD (k:=[Ty.zero,Ty.zero])
  have a:A.len r=bj (w.length+0):=by rw[X.a,hr,dp];rfl
  have g:A.add (A.len r) 1=bj (w.length+1):=by rw[a,X.a];rfl
  have O:A.gr (A.add (A.len r) (A.len (A.lit [[.int 0,.str [],.str [],.list [],.list []],[.int 0,.str [],.str [],.list [],.list []]]))) 4294967296:=by rw[a,X.a];simp only[SD];omega
  have B:A.idx (A.len r) (A.len (A.app r (A.lit [[.int 0,.str [],.str [],.list [],.list []],[.int 0,.str [],.str [],.list [],.list []]]))):=by rw[hz,a,X.a];exact cY (i:=w.length+0) yS
  have ae:A.inr .i64 (A.add (A.len r) 1):=by rw[a,X.a];exact fN (n:=w.length+1) yO yO
  have s1:=Cx X.a (k:=[Ty.zero,Ty.zero]) (i:=0) yS a hz (AT k2);have u:∀row:List D,row=ca x.types[i].lower->A.idx (A.add (A.len r) 1) (A.len (A.nK (A.app r (A.lit [[.int 0,.str [],.str [],.list [],.list []],[.int 0,.str [],.str [],.list [],.list []]])) (A.len r) 0 row)):=λrow e=>by rw[e,<-AT k2,s1,g,X.a];exact cY (i:=w.length+1) yS
  have W:A.idx (A.add (A.len r) 1) (A.len (A.app r (A.lit [[.int 0,.str [],.str [],.list [],.list []],[.int 0,.str [],.str [],.list [],.list []]]))):=by rw[hz,g,X.a];exact cY (i:=w.length+1) yS
  have o:=Cx X.a (k:=[x.types[i].lower,Ty.zero]) (i:=1) yS g s1 (AT k3);have ah:=u _ (AT k2);clear h1 s1 hz a g u;cbv;refine⟨M,?_⟩;refine X.cut (λ(r2:D)=>⟨[(17,.int .i64 i),(16,.int .i64 (A.len c1)),(15,.lst 136 c1),(6,.box 3 0),(4,.cu 156 [.box 2 0]),(3,.box 2 0),(1,.box 0 0)],[.box [.str U,.lst 136 c1,.lst 91 c2,.lst 210 R,.lst 213 T],.row 29 r2 true,.box [.row 29 1],.box [.str (A.bG (A.cell c1 (bj i) 0)),.lst 73 (A.cell c1 (bj i) 1),.int .i64 (A.asInt (A.cell c1 (bj i) 2)),.str (A.bG (A.cell c1 (bj i) 3)),.str (A.bG (A.cell c1 (bj i) 4)),.lst 29 (A.cell c1 (bj i) 5),.lst 57 (A.cell c1 (bj i) 6),.int .i64 (A.asInt (A.cell c1 (bj i) 7)),.str (A.bG (A.cell c1 (bj i) 8)),.str (A.bG (A.cell c1 (bj i) 9)),.lst 29 (A.cell c1 (bj i) 10),.lst 57 (A.cell c1 (bj i) 11)]]⟩) (λr2=>r2=bt ca (w++[x.types[i].lower,x.types[i].upper])) ?_ ?_
  ·cbv;repeat' (first|apply bk|exact zf|(intro J;cbv)|apply bB)
   all_goals try first|exact O|exact B|exact ae|exact ah|exact W
   all_goals (
    exact⟨_,o,[0,1,2,3],rfl,yc⟩)
  intro r2 E;cbv;refine X.call (Xn k1 N E (by simp only[bp,bI,bZ];omega) λV I=>?_);have P:V=bt ca ((x.types.take (i+1)).flatMap eL):=by rw[j,I,bL];rfl
  refine p1 ?_;exact⟨(i+1,V),⟨yP,P⟩,yP,[0,4,2],rfl,yc⟩
 have h5:i=s:=gY X.a c h1;rw[h5,v,bz]at hr;clear h1 hi h5;cbv;refine lP X (λy=>y.1<=m/\y.2=bt ca (x.types.flatMap eL++(x.values.take y.1).flatMap fU)) (λy=>m-y.1) (0,r) ⟨bw _,yU hr⟩ [0,1,2] (λ(y:Nat×D)=>⟨[(40,.int .i64 y.1),(39,.int .i64 (A.len c2)),(38,.lst 91 c2),(4,.cu 156 [.box 2 0]),(3,.box 2 0),(1,.box 0 0)],[.box [.str U,.lst 136 c1,.lst 91 c2,.lst 210 R,.lst 213 T],.row 29 y.2 true,.box [.row 29 1]]⟩) ?_;clear hr;rintro⟨i,r⟩ ⟨hi,hr⟩;simp only at hi hr;cbv;constructor<;>intro h1
 ·have h5:i<x.values.length:=lY X.a d h1;obtain⟨k0,k1,k2⟩:=pg X.a H h5;have M:=iX X.a H h5;have am:=jX X.a h5;have aa:=kY (f:=fU) h5;have j:=fu (f:=fU) h5;have aj:(fU x.values[i]).length=1+x.values[i].params.length:=by unfold fU;simp;omega
  have N:=(ec.v _ (br h5)).np;obtain⟨w,Q⟩:∃w,w=x.types.flatMap eL++(x.values.take i).flatMap fU:=⟨_,rfl⟩;have av:w.length+(fU x.values[i]).length<=(cW x).length:=by rw[Q,bp,ai];omega
  have j:w++fU x.values[i]=x.types.flatMap eL++(x.values.take (i+1)).flatMap fU:=by rw[j,Q,bL]
  rw[<- Q]at hr;have hz:A.app r (A.lit [[.int 0,.str [],.str [],.list [],.list []]])=bt ca (w++[Ty.zero]):=by rw[X.a,hr];exact cD (k:=[Ty.zero])
  have a:A.len r=bj (w.length+0):=by rw[X.a,hr,dp];rfl
  have O:A.gr (A.add (A.len r) (A.len (A.lit [[.int 0,.str [],.str [],.list [],.list []]]))) 4294967296:=by rw[a,X.a];simp only[SD];omega
  have B:A.idx (A.len r) (A.len (A.app r (A.lit [[.int 0,.str [],.str [],.list [],.list []]]))):=by rw[hz,a,X.a];exact cY (i:=w.length+0) yS
  have o:=Cx X.a (k:=[Ty.zero]) (i:=0) yS a hz (AT k2);clear h1 hz a;cbv;refine⟨M,?_⟩;refine X.cut (λ(r2:D)=>⟨[(40,.int .i64 i),(39,.int .i64 (A.len c2)),(38,.lst 91 c2),(8,.box 3 0),(4,.cu 156 [.box 2 0]),(3,.box 2 0),(1,.box 0 0)],[.box [.str U,.lst 136 c1,.lst 91 c2,.lst 210 R,.lst 213 T],.row 29 r2 true,.box [.row 29 1],.box [.str (A.bG (A.cell c2 (bj i) 0)),.lst 73 (A.cell c2 (bj i) 1),.int .i64 (A.asInt (A.cell c2 (bj i) 2)),.str (A.bG (A.cell c2 (bj i) 3)),.str (A.bG (A.cell c2 (bj i) 4)),.lst 29 (A.cell c2 (bj i) 5),.lst 57 (A.cell c2 (bj i) 6)]]⟩) (λr2=>r2=bt ca (w++[x.values[i].ty])) ?_ ?_
  ·cbv;repeat' (first|apply bk|exact zf|(intro J;cbv)|apply bB)
   all_goals try first|exact O|exact B
   all_goals (
    exact⟨_,o,[0,1,2,3],rfl,yc⟩)
  intro r2 E;cbv;refine X.call (Xn k1 N E (by simp only[bp,bI,bZ];omega) λV I=>?_);have P:V=bt ca (x.types.flatMap eL++(x.values.take (i+1)).flatMap fU):=by rw[<- j,I,bL];rfl
  refine p1 ?_;exact⟨(i+1,V),⟨yP,P⟩,yP,[0,4,2],rfl,yc⟩
 have h5:i=m:=gY X.a d h1;rw[h5,F,bz]at hr;have hr:r=bt ca (cW x):=hr;clear h1 hi h5;cbv;refine X.call (nF .j (.inr (.inl rfl)) (p:=KA) hr yO (λt ht _ K' ⟨_,_,_,_,_,e,al⟩ ak=>e▸abF (sJ ec t ht).le (by have:=(sJ ec t ht).sz;omega) al ak) λb hb=>?_);have q:=h b hb;cbv;exact q
section
variable {K:PV->List Ob->Prop}
def F89{x:IF}{a:S}{c1 c2 c d:D}(e:lQ x a c1 c2 c d)(h:∀b,b=(x.path==GV)->K (.bool b) []):FT 89 [] [qN a c1 c2 c d] K:=by refine en (cf 6) Tryz.func89 λA C L X=>?_;have q:=h (A.seq a [112,114,111,98,101,47,118,49]) (by rw[X.a,e.1];rfl);cbv;exact q
def F46{env:List IF}{de:D}(he:de=bt dy env)(dJ:ey env)(ec:∀i∈env,i.fit)(mi:(env.map IF.wt).sum<=268435456)(hT:(qf env).2=0->∃C,FY env (kL env []) C)
 (h:∀b,b=Ci env->K (.bool b) []):
 FT 46 [] [.lst 97 de] K:=by
 have Ss:∀i∈env,i.wt<=268435456:=λi m=>bM (ql m) mi;refine en (cf 24) Tryz.func46 λA C L X=>?_;have Y:=fg X.a;have Z:=oY X.a;have f:env.length<=4294967295:=dJ.1;cbv;refine X.call (F87 he dJ ec mi hT λa b r hr=>?_);have l:A.eq r 0=decide ((sG env).2.2=0):=by rw[Z,<-hr,cn];simp
 unfold Ci at h;rw[<- l]at h;clear hr;cbv;repeat' (first|apply bk|exact zf|(intro J;cbv)|apply bB|(refine X.call (nF .m (.inr (.inr rfl)) (p:=λi:IF=>i.path==GV) he f (λx k _ n ⟨_,_,_,_,_,e,c⟩ d=>e▸F89 c d) λb1 g=>?_);cbv)|(refine X.call (nF .n (.inr (.inr rfl)) (p:=Mp) he f (λx k _ n ⟨_,_,_,_,_,e,c⟩ d=>e▸F90 c (ec x k) (by have:=Ss x k;omega) d) λb2 j=>?_);cbv))
 all_goals first
  |(have z:A.eq r 0=false:=yA
    exact h _ (by rw[z];rfl))
  |(have z:A.eq r 0=true:=yA
    have y:A.not b1=false:=yA;rw[Y]at y;exact h _ (by rw[z,<-g,y];rfl))
  |(have z:A.eq r 0=true:=yA
    have y:A.not b1=true:=yA;rw[Y]at y;exact h _ (by rw[z,<-g,<-j,y];exact Y b2))
end
end Go.VC.cc
namespace Go.VC
abbrev qP(de dc a dm:D)(wr:Bool):List Ob:=[.box [.lst 97 de,.lst 73 dc,.row 9 1,.mp 2],.row 9 a wr,.map .str 4 dm]
abbrev QY(de dc a dm:D)(wr:Bool):List Ob:=[.box [.lst 97 de,.lst 73 dc,.row 9 3,.mp 2],.dead,.map .str 4 dm,.row 9 a wr]
def anFe(f:Fe):Fe:=.mk f.s Ty.zero f.b
def uO(t:Ty):Ty:=.mk t.k t.m t.n (fb t.ar.length Ty.zero) (t.fl.map anFe)
def dI(env:List IF)(vs:List S)(t:Ty):Bool:=t.all.all λu=>decide (sF env vs (uO u)=0)
def Fo(env:List IF)(vs:List S)(t:Ty):dI env vs t=(t.ar.all (dI env vs)&&(t.fl.all λf=>dI env vs f.t)&&decide (sF env vs (uO t)=0)):=by unfold dI;rw[all_eq,vX,List.all_flatMap,Ty.eA,nI,List.all_map,Bool.and_comm];rfl
def uE(t:Ty):(uO t).eA=fb t.eA.length Ty.zero:=by
 refine List.eq_replicate_iff.2 ⟨?_,λu hu=>?_⟩
 ·simp[Ty.eA,uO,Ty.ar,Ty.fl]
 ·rcases bE.1 hu with hu|hu
  ·exact iz hu
  ·obtain⟨f,hf,rfl⟩:=bH.1 hu;obtain⟨g,a,rfl⟩:=bH.1 hf;rfl
def Qh{t:Ty}(h:t.me):∀u∈(uO t).all,u.me:=by
 intro u hu;rw[all_eq]at hu;rcases bx.1 hu with rfl|hu
 ·refine⟨h.m,h.n,?_⟩;intro f hf;obtain⟨g,b,rfl⟩:=bH.1 hf;exact h.f g b
 ·obtain⟨v,a,hu⟩:=cb.1 hu;rw[uE]at a;rw[iz a]at hu;exact xA u hu
def SS{t:Ty}(h:Ty.le 4294967295 t):Ty.le 4294967295 (uO t):=by
 cases h with|mk _ ha hf h1 J=>
 refine .mk _ ?_ ?_ (λu hu=>?_) λf a=>?_
 ·show (fb t.ar.length Ty.zero).length<=_;simpa using ha
 ·show (t.fl.map anFe).length<=_;simpa using hf
 ·rw[iz hu];exact lb
 ·obtain⟨g,b,rfl⟩:=bH.1 a;exact lb
def NN(t:Ty):(uO t).size<=t.size:=by
 have h:=iY t
 have e:∀n,((fb n Ty.zero).map Ty.size).sum=n:=λn=>by
  induction n with
  |zero=>rfl
  |succ n a=>rw[Od,bF,bV,a];show 1+n=_;omega
 rw[size_eq,uE,e];omega
end Go.VC
namespace Go.VC.cc
open Go Go.VC Go.Proofs
def YR:dH:={tt:=tt,n:=69,n0:=3,iU:=g72.iU,live:=[72],ox:=[2]}
def F72{env:List IF}{de dc dm E:D}{vs:List S}{wr:Bool}(he:de=bt dy env)(dJ:ey env)(hv:E=bt cT vs)(aa:vs.length<=4294967295):∀(t:Ty),Ty.le 4294967295 t->t.size<=4294967290->(∀u∈t.all,u.me)->∀{B:Int}{c1 c2:S}{o G:D}(ht:cr t B c1 c2 o G){K:PV->List Ob->Prop}
 (h:∀b,b=dI env vs t->K (.bool b) (QY de dc E dm wr)),FT 72 (qP de dc E dm wr) [.box 0 0,dQ B c1 c2 o G] K:=by
 refine Ty.fV λt ih=>?_;intro w fW F B c1 c2 o G ht K h;obtain⟨t0,t1,t2,P,x⟩:=ht;have ah:t.ar.length<=4294967295:=by cases w;assumption
 have al:t.fl.length<=4294967295:=by cases w;assumption
 obtain⟨am,af⟩:=oJ (t:=t) yO;have an:t.eA.length=t.ar.length+t.fl.length:=by simp[Ty.eA]
 have V:∀u∈t.eA,u.size<=4294967290:=λu hu=>by have h1:=size_eq t;have J:u.size<=(t.eA.map Ty.size).sum:=vH (bH.2 ⟨u,hu,rfl⟩);omega
 have W:∀u∈t.eA,∀v∈u.all,v.me:=λu hu v hv=>F v (jr hu hv);have U:(t.ar.all (dI env vs)=false\/(t.fl.all λf=>dI env vs f.t)=false)->K (.bool false) (QY de dc E dm wr):=λe=>h _ (by rw[Fo];rcases e with e|e<;>rw[e]<;>simp);have s:t.ar.all (dI env vs)=true->(t.fl.all λf=>dI env vs f.t)=true->∀b,b=decide (sF env vs (uO t)=0)->K (.bool b) (QY de dc E dm wr):=λe1 e2 b hb=>h _ (by rw[Fo,e1,e2,hb];rfl);clear h;refine el YR Tryz.func72 λA C L X=>?_;have Y:=fg X.a;have Z:=oY X.a;obtain⟨d,p,a⟩:=lenOf P;obtain⟨n,I,m⟩:=lenOf x;have b1:A.gr (A.len o) (A.len o):=by rw[X.a,a];simp only[SD];omega
 have b2:A.gr (A.len o) 4294967296:=by rw[X.a,a];simp only[SD];omega
 have e1:A.XK (A.len o) [.int 0,.str [],.str [],.list [],.list []]=bt ca (fb d Ty.zero):=by rw[X.a,a];simp[Std,dS,bt,ca,vR,vS,Ty.zero]
 cbv;refine X.cut (λ(z:D×D)=>⟨[(5,.box 5 0),(3,.box 4 0),(0,.box 0 0)],[.box [.lst 97 de,.lst 73 dc,.row 9 3,.mp 2],.dead,.map .str 4 dm,.row 9 E wr,.box [.int .i64 B,.str c1,.str c2,.lst 29 o,.lst 57 G],.box [.int .i64 B,.str c1,.str c2,.row 29 6,.row 57 7],.row 29 z.1 true,.row 57 z.2 true]⟩) (λz=>z.1=bt ca (fb d Ty.zero)/\z.2=bt fj t.fl) ?_ ?_
 ·cbv;repeat' (first|apply bk|exact zf|(intro J;cbv)|apply bB|(refine X.call (Pt.2.1 x yO λr hr=>?_);cbv))
  all_goals try first|exact b1|exact b2
  all_goals first
   |(exact⟨(_,r),⟨e1,hr⟩,[0,1,2,3,4,5,6,7],rfl,yc⟩
     done)
   |(exact⟨(_,r),⟨e1,hr⟩,[0,1,2,3,4,5,7,6],rfl,yc⟩
     done)
   |trace_state
 rintro⟨R,Q⟩ ⟨g,j⟩;simp only at g j;clear e1 b1 b2;cbv;refine lP X (λy=>y.1<=d/\(t.ar.take y.1).all (dI env vs)=true/\y.2=bt ca (fb d Ty.zero)) (λy=>d-y.1) (0,R) ⟨bw _,rfl,g⟩ [0,1,2,3,4,5,6,7] (λ(y:Nat×D)=>⟨[(23,.int .i64 y.1),(22,.int .i64 (A.len o)),(21,.lst 29 o),(5,.box 5 0),(3,.box 4 0),(0,.box 0 0)],[.box [.lst 97 de,.lst 73 dc,.row 9 3,.mp 2],.dead,.map .str 4 dm,.row 9 E wr,.box [.int .i64 B,.str c1,.str c2,.lst 29 o,.lst 57 G],.box [.int .i64 B,.str c1,.str c2,.row 29 6,.row 57 7],.row 29 y.2 true,.row 57 Q true]⟩) ?_;clear g;rintro⟨k,R⟩ ⟨hk,c,g⟩;simp only at hk c g;cbv;constructor<;>intro h1
 ·have h5:k<t.ar.length:=lY X.a a h1;have q:=iS X.a P h5;have N:=iX X.a P h5;have M:=jX X.a h5;have l:t.ar[k]∈t.eA:=by simp[Ty.eA]
  have H:A.idx (bj k) (A.len R):=by rw[X.a,g];exact cY yQ
  have O:A.nK R (bj k) 0 [.int 0,.str [],.str [],.list [],.list []]=bt ca (fb d Ty.zero):=by rw[<- g];exact rA X.a g yQ (by rw[List.getElem_replicate];rfl)
  clear h1;cbv;refine⟨N,?_⟩;refine X.call (ih _ l (iW w _ l) (V _ l) (W _ l) q λb hb=>?_);cbv;repeat' (first|apply bk|exact zf|(intro J;cbv)|apply bB)
  all_goals try first|exact M|exact H
  ·have z:A.not b=true:=yA;rw[Y]at z;exact U (.inl (all_false h5 (by rw[<- hb];simpa using z)))
  ·have z:A.not b=false:=yA;rw[Y]at z;exact⟨(k+1,_),⟨yP,lz h5 c (by rw[<- hb];simpa using z),O⟩,yP,[0,1,2,9,4,5,6,7],rfl,yc⟩
 have h5:k=d:=gY X.a a h1;rw[h5,p,bz]at c;have s:=s c;clear h1 hk h5 c;cbv;refine lP X (λy=>y.1<=n/\(t.fl.take y.1).all (λf=>dI env vs f.t)=true/\y.2=bt fj ((t.fl.take y.1).map anFe++t.fl.drop y.1)) (λy=>n-y.1) (0,Q) ⟨bw _,rfl,j⟩ [0,1,2,3,4,5,6,7] (λ(y:Nat×D)=>⟨[(41,.int .i64 y.1),(40,.int .i64 (A.len G)),(39,.lst 57 G),(5,.box 5 0),(3,.box 4 0),(0,.box 0 0)],[.box [.lst 97 de,.lst 73 dc,.row 9 3,.mp 2],.dead,.map .str 4 dm,.row 9 E wr,.box [.int .i64 B,.str c1,.str c2,.lst 29 o,.lst 57 G],.box [.int .i64 B,.str c1,.str c2,.row 29 6,.row 57 7],.row 29 R true,.row 57 y.2 true]⟩) ?_;clear j;rintro⟨k,Q⟩ ⟨hk,c,j⟩;simp only at hk c j;cbv;constructor<;>intro h1
 ·have h5:k<t.fl.length:=lY X.a m h1;have q:=nq X.a x h5;have N:=iX X.a x h5;have M:=jX X.a h5;have l:t.fl[k].t∈t.eA:=by simp only[Ty.eA,bE,bH];exact .inr ⟨_,br h5,rfl⟩
  have ai:((t.fl.take k).map anFe++t.fl.drop k).length=n:=yQ;have H:A.idx (bj k) (A.len Q):=by rw[X.a,j];exact cY yO
  have T:A.nK Q (bj k) 1 [.int 0,.str [],.str [],.list [],.list []]=bt fj ((t.fl.take (k+1)).map anFe++t.fl.drop (k+1)):=by
   rw[X.a,j];have hg:((t.fl.take k).map anFe++t.fl.drop k)[k]'yO=t.fl[k]:=by rw[F5 (by simp only[bA,cF];omega)];simp[cF,Dy (KO h5)]
   refine(re (i:=k) (y:=anFe t.fl[k]) rfl yO ?_).trans ?_
   ·rw[hg,nx,nx];rfl
   ·congr 1
    rw[List.set_append_right _ _ (by simp only[bA,cF];omega),map_take h5,bJ h5,show k-((t.fl.take k).map anFe).length=0 by simp only[bA,cF];omega,Oq,bL];rfl
  clear h1;cbv;refine⟨N,?_⟩;refine X.call (ih _ l (iW w _ l) (V _ l) (W _ l) q λb hb=>?_);cbv;repeat' (first|apply bk|exact zf|(intro J;cbv)|apply bB)
  all_goals try first|exact M|exact H
  ·have z:A.not b=true:=yA;rw[Y]at z;exact U (.inr (all_false h5 (by rw[<- hb];simpa using z)))
  ·have z:A.not b=false:=yA;rw[Y]at z;exact⟨(k+1,_),⟨yP,lz h5 c (by rw[<- hb];simpa using z),T⟩,yP,[0,1,2,9,4,5,6,7],rfl,yc⟩
 have h5:k=n:=gY X.a m h1;rw[h5,I,bz]at c j;rw[ch,cz]at j;have s:=s c;rw[p]at g;clear h1 hk h5 c;cbv;repeat' (first|apply bk|exact zf|(intro J;cbv)|apply bB|(refine X.call (N8 he dJ hv aa (t:=uO t) (SS w) (by have:=NN t;omega) (Qh (F t (fK t))) ⟨t0,t1,t2,g,j⟩ λr hr=>?_);cbv))
 all_goals (
  have q:=s (A.eq r 0) (by rw[Z,hr,cn];simp);first|exact q|(cbv;exact q)|trace_state)
end Go.VC.cc
namespace Go.VC
def fC(ctx:List Pm):List S:=ctx.map Pm.name
def zQ(env:List IF):List S->List Pm->Bool
 |_,[]=>true
 |vs,p::l=>Cf p.name&& !vs.contains p.name&&dI env vs p.bound&&zQ env (vs++[p.name]) l
noncomputable def FD(env:List IF)(ctx:List Pm):Bool:=Ci env&&zQ env [] ctx
noncomputable def kH(env:List IF)(ctx:List Pm)(s t:Ty):Bool:=FD env ctx&&(dI env (fC ctx) s&&dI env (fC ctx) t)
def Ty.fit.z{t:Ty}(h:t.fit):t.size<=4294967290:=by have:=h.sz;omega
structure nO (env:List IF) (de:D):Prop where
 he:de=bt dy env
 dJ:ey env
 ec:∀i∈env,i.fit
 mi:(env.map IF.wt).sum<=268435456
 hT:(qf env).2=0->∃C,FY env (kL env []) C
end Go.VC
namespace Go.VC.cc
open Go Go.VC Go.Proofs
section
variable {dc a3 a4 a d:D}{K:PV->List Ob->Prop}{s t:Ty}{f c:Int}{a1 a2 b1 b2:S}{ctx:List Pm}
def Zb:dH:={tt:=tt,n:=15,n0:=3,live:=[72]}
def F36{env:List IF}{de dm k:D}{vs:List S}{wr:Bool}(he:de=bt dy env)(dJ:ey env)(l:k=bt cT vs)(e:vs.length<=4294967295)(fs:s.fit)(i:t.fit)
 (ha:cr s f a1 a2 a3 a4) (hb:cr t c b1 b2 a d)
 (h:∀b,b=(dI env vs s&&dI env vs t)->K (.bool b) (QY de dc k dm wr)):FT 36 (qP de dc k dm wr) [.box 0 0,kq f a1 a2 a3 a4 c b1 b2 a d] K:=by
 refine el Zb Tryz.func36 λA C L X=>?_;cbv;refine X.call (F72 he dJ l e s fs.le fs.z fs.me ha λm g=>?_);rw[<- g]at h;clear g;cbv;repeat' (first|apply bk|exact zf|(intro J;cbv)|apply bB|(refine X.call (F72 he dJ l e t i.le i.z i.me hb λr2 j=>?_);cbv))
 all_goals first
  |(have z:m=true:=yA
    exact h _ (by rw[z,j];rfl))
  |(have z:m=false:=yA
    exact h _ (by rw[z];rfl))
def Y1:dH:={tt:=tt,n:=55,iU:=g64.iU,own:=[14],live:=[72],pC:=[41]}
def F64{env:List IF}{de:D}(E:nO env de)(hc:dc=bt dB ctx)(oV:ctx.length<=1048576)(I:∀p∈ctx,p.bound.fit/\p.name.length<=1048576)
 (h0:FD env ctx=false->K .nilp []) (h1:FD env ctx=true->∀r dm,r=bt cT (fC ctx)->dm= .list []->K (.box 0 0) (qP de dc r dm true)):
 FT 64 [] [.lst 97 de,.lst 73 dc] K:=by
 refine el Y1 Tryz.func64 λA C L X=>?_;have Y:=fg X.a;obtain⟨n,m,g⟩:=lenOf hc;cbv;refine X.call (F46 E.he E.dJ E.ec E.mi E.hT λb hb=>?_);cases b with
 |false=>
  have q:=h0 (by unfold FD;rw[<- hb];rfl);have z:A.not false=true:=by rw[Y];rfl
  cbv;repeat' (first|apply bk|exact zf|(intro J;first|exact yB z J|cbv)|apply bB)
  all_goals exact q
 |true=>
  have z:A.not true=false:=by rw[Y];rfl
  have h0:zQ env [] ctx=false->K .nilp []:=λe=>h0 (by unfold FD;rw[<- hb,e];rfl);have F:zQ env [] ctx=true->_:=λe=>h1 (by unfold FD;rw[<- hb,e];rfl);clear hb;cbv;repeat' (first|apply bk|exact zf|(intro J;first|exact yB z J|cbv)|apply bB)
  refine lP X (λy=>y.1<=n/\zQ env [] ctx=zQ env (fC (ctx.take y.1)) (ctx.drop y.1)/\y.2=bt cT (fC (ctx.take y.1))) (λy=>n-y.1) (0,.list []) ⟨bw _,rfl,rfl⟩ [4,3,0] (λ(y:Nat×D)=>⟨[(18,.int .i64 y.1),(17,.int .i64 (A.len dc)),(16,.lst 73 dc),(5,.box 0 0)],[.box [.lst 97 de,.lst 73 dc,.row 9 1,.mp 2],.row 9 y.2 true,.map .str 4 (.list [])]⟩) ?_;rintro⟨i,r⟩ ⟨P,l,h⟩;simp only at P l h;cbv;constructor<;>intro h1
  ·have h5:i<ctx.length:=lY X.a g h1;obtain⟨v,R,Q⟩:=im X.a hc h5;have H:=iX X.a hc h5;have B:=jX X.a h5;obtain⟨x,T⟩:=I _ (br h5);have O:(fC (ctx.take i)).length=i:=by unfold fC;rw[bA,cF];omega
   have u:A.app r (A.lit [[.str (A.bG (A.cell dc (bj i) 0))]])=bt cT (fC (ctx.take (i+1))):=by rw[v,X.a,h,fC,fC,cj h5,bS];exact cD (k:=[ctx[i].name])
   have N:A.gr (A.add (A.len r) (A.len (A.lit [[.str (A.bG (A.cell dc (bj i) 0))]]))) 4294967296:=by rw[X.a,h];simp only[SD];omega
   rw[bJ h5,zQ]at l;have G:(A.bG (A.cell dc (bj i) 0)).length<=4294967295:=by rw[v];omega
   clear h1;cbv;repeat' (first|apply bk|exact zf|(intro J;cbv)|apply bB|(refine X.call (Xt G λb1 o=>?_);cbv)|(refine X.call (Rr h yO λb2 j=>?_);cbv)|(refine X.call (F72 E.he E.dJ h yO _ x.le x.z x.me Q λa M=>?_);cbv))
   all_goals try first|exact H|exact B|exact N
   all_goals (
    have o:b1=Cf (A.bG (A.cell dc (bj i) 0)):=o;rw[v]at o;rw[<- o]at l)
   all_goals first
    |(have z:A.not b1=true:=yA
      rw[Y]at z;exact h0 (by rw[l,(by simpa using z:b1=false)];rfl))
    |(have z:A.not b1=false:=yA
      rw[Y]at z;have j:b2=(fC (ctx.take i)).contains (A.bG (A.cell dc (bj i) 0)):=j;rw[v]at j;have j:b2=List.elem ctx[i].name (fC (ctx.take i)):=j;rw[<- j,(by simpa using z:b1=true)]at l
      first
       |(have y:b2=true:=J
         exact h0 (by rw[l,y];rfl))
       |(have y:b2=false:=yA
         rw[<- M,y]at l
         first
          |(have w:A.not a=true:=yA
            rw[Y]at w;exact h0 (by rw[l,(by simpa using w:a=false)];rfl))
          |(have w:A.not a=false:=yA
            rw[Y]at w;rw[(by simpa using w:a=true)]at l;refine⟨(i+1,_),⟨yP,?_,u⟩,yP,[0,4,2],rfl,?_⟩
            ·rw[l];show zQ _ _ _=_;unfold fC;rw[cj h5,bS];rfl
            (cbv;repeat' apply bk);all_goals try first|trivial|rfl|(rw[X.a];rfl))))
    |trace_state
  ·have h5:i=n:=gY X.a g h1;rw[h5,m,bz]at h;rw[h5,m,ch,zQ]at l;have q:=F l r _ h rfl;cbv;exact q
def Zl:dH:={tt:=tt,n:=29,iU:=g28.iU,live:=[36,64]}
def F28{env:List IF}{de:D}(E:nO env de)(hc:dc=bt dB ctx)(oV:ctx.length<=1048576)(j:∀p∈ctx,p.bound.fit/\p.name.length<=1048576)(fs:s.fit)(k:t.fit)
 (ha:cr s f a1 a2 a3 a4) (hb:cr t c b1 b2 a d)
 (h0:kH env ctx s t=false->K (.tup [.nilp,kq f a1 a2 a3 a4 c b1 b2 a d]) []) (h1:kH env ctx s t=true->∀g dm,g=bt cT (fC ctx)->dm= .list []->K (.tup [.box 0 0,kq f a1 a2 a3 a4 c b1 b2 a d]) (qP de dc g dm true)):
 FT 28 [] [.lst 97 de,.lst 73 dc,dQ f a1 a2 a3 a4,dQ c b1 b2 a d] K:=by
 refine el Zl Tryz.func28 λA C L X=>?_;have Y:=fg X.a;cbv;refine X.call (F64 E hc oV j (λe=>?_) λe g dm b h=>?_)
 ·have q:=h0 (by unfold kH;rw[e];rfl);cbv;repeat' (first|apply bk|exact zf|(intro J;cbv)|apply bB)
  all_goals first|exact q|trace_state
 ·unfold kH at h0 h1;rw[e]at h0 h1;have i:(fC ctx).length<=4294967295:=by unfold fC;rw[bA];omega
  cbv;repeat' (first|apply bk|exact zf|(intro J;cbv)|apply bB|(refine X.call (F36 E.he E.dJ b i fs k ha hb λr hr=>?_);cbv))
  all_goals first
   |(have z:A.not r=true:=yA
     rw[Y]at z;exact h0 (by rw[<- hr,(by simpa using z:r=false)];rfl))
   |(have z:A.not r=false:=yA
     rw[Y]at z;exact h1 (by rw[<- hr,(by simpa using z:r=true)];rfl) g dm b h)
end
section
variable {K:PV->List Ob->Prop}{s:S}
def abm{x:Fe}{a:S}{c1:Int}{c2 c:S}{f d:D}{e:Bool}(g:qV x a c1 c2 c f d e)(h:∀b,b=(x.s==s)->K (.bool b) []):
 FT 212 [] [qe a c1 c2 c f d e,.du [.str s] 0] K:=by
 obtain⟨k,_⟩:=g;refine en (cf 8) Tryz.func212 λA C L X=>?_;have q:=h (A.seq a s) (by rw[X.a,<-k];rfl);cbv;exact q
def QC{l:List Fe}{d:D}(a:d=bt fj l)(hl:l.length<=4294967295){c:S}(hs:c=s)
 (h:∀e0 e1 e2 e3 e4 e5 e6 b,qV ((eg l s).getD Fe.zero) e0 e1 e2 e3 e4 e5 e6->b=(eg l s).isSome->K (.tup [qe e0 e1 e2 e3 e4 e5 e6,.bool b]) []):
 FT 172 [] [.lst 57 d,.str c] K:=by
 subst hs;refine en (cf 17) Tryz.func172 λA C L X=>?_;have dA:=IV X.a;cbv;refine X.call (UN .h (p:=λx=>x.s==c) a hl (λx n _ o ⟨_,_,_,_,_,_,_,e,f⟩ j=>e▸abm f j) λr hr=>?_);have hr:r=ou (λx:Fe=>x.s==c) l:=hr;rcases vK (p:=λx:Fe=>x.s==c) (l:=l)with⟨e1,e2⟩|⟨i,m,e1,e2⟩
 ·have e2:eg l c=none:=e2;have z:A.lt r 0=true:=by rw[dA,hr,e1];rfl
  have q:=h [] 0 [] [] (.list []) (.list []) false false (by rw[e2];exact⟨rfl,⟨rfl,rfl,rfl,rfl,rfl⟩,rfl⟩) (by rw[e2];rfl);cbv;repeat' (first|apply bk|exact zf|(intro J;first|exact yB z J|cbv)|apply bB)
  exact q
 ·have e2:eg l c=some l[i]:=e2;have k:r=bj i:=by rw[hr,e1];rfl
  subst k;have z:A.lt (bj i) 0=false:=by rw[dA];simp only[bD];simp
  have g:=iX X.a a m;have q:=h _ _ _ _ _ _ _ true (by rw[e2];exact kQ X.a a m) (by rw[e2];rfl);cbv;repeat' (first|apply bk|exact zf|(intro J;first|exact yB z J|cbv)|apply bB)
  all_goals first|exact g|exact q|skip
def Vu:dH:={tt:=tt,n:=38,own:=[4,6]}
def Vt:dH:={tt:=tt,n:=38,own:=[4,6]}
def mQH:(∀{s t:Ty}(O:Ty.le 4294967295 s)(dA:Ty.le 4294967295 t)(h:∀ f∈t.fl,f.b=false){E:Int}{a1 a2:S}{a3 a4:D}{B:Int}{b1 b2:S}{w d:D}(hs:cr s E a1 a2 a3 a4)(V:cr t B b1 b2 w d){K:PV->List Ob->Prop}(F:er true s.fl t.fl=none->K (.tup [.row 50 0,.bool false]) [.row 50 (.list []) true])(m:∀ l r,er true s.fl t.fl=some l->r=bt dD l->K (.tup [.row 50 0,.bool true]) [.row 50 r true]),FT 133 [] [dQ E a1 a2 a3 a4,dQ B b1 b2 w d] K)/\
 (∀{s t:Ty}(O:Ty.le 4294967295 s)(dA:Ty.le 4294967295 t)(h:∀ f∈s.fl,f.b=false){E:Int}{a1 a2:S}{a3 a4:D}{B:Int}{b1 b2:S}{w d:D}(hs:cr s E a1 a2 a3 a4)(V:cr t B b1 b2 w d){K:PV->List Ob->Prop}(F:er false t.fl s.fl=none->K (.tup [.row 50 0,.bool false]) [.row 50 (.list []) true])(m:∀ l r,er false t.fl s.fl=some l->r=bt dD l->K (.tup [.row 50 0,.bool true]) [.row 50 r true]),FT 134 [] [dQ E a1 a2 a3 a4,dQ B b1 b2 w d] K):=by
 refine⟨?_,?_⟩;have v:=trivial
 rotate_left
 have zB:=trivial
 rotate_left
 all_goals (
  intro s t O dA h E a1 a2 a3 a4 B b1 b2 w d hs V K F m;obtain⟨s0,s1,s2,af,p⟩:=id hs;obtain⟨t0,t1,t2,ag,u⟩:=id V;have W:s.fl.length<=4294967295:=by cases O;assumption
  have ad:t.fl.length<=4294967295:=by cases dA;assumption
  first
   |(have x:=v
     refine FC.jN (G:=Vu) fD mixed ⟨Tryz.func133,by rfl,rfl⟩ rfl rfl rfl ?_)
   |(refine FC.jN (G:=Vt) fD mixed ⟨Tryz.func134,by rfl,rfl⟩ rfl rfl rfl ?_)
  intro A C L X;have Y:=fg X.a
  first
   |(have x:=v
     obtain⟨o,M,a⟩:=lenOf u)
   |(obtain⟨n,I,c⟩:=lenOf p)
  cbv
  first
   |(have x:=v
     refine X.ka (λ(y:Nat×List Jm×D)=>⟨[(14,.int .i64 y.1),(13,.int .i64 (A.len d)),(12,.lst 57 d),(6,.row 50 2),(3,.box 1 0),(2,.box 0 0)],[.box [.int .i64 E,.str a1,.str a2,.lst 29 a3,.lst 57 a4],.box [.int .i64 B,.str b1,.str b2,.lst 29 w,.lst 57 d],.row 50 y.2.2 true]⟩)
      (λy=>y.1<=o/\er true s.fl t.fl=(er true s.fl (t.fl.drop y.1)).map (y.2.1++ ·)/\y.2.1.length<=y.1/\y.2.2=bt dD y.2.1) (λy=>o-y.1) (0,[],.list []) ⟨bw _,yS,bX _,rfl⟩ ?_ ?_)
   |(refine X.ka (λ(y:Nat×List Jm×D)=>⟨[(14,.int .i64 y.1),(13,.int .i64 (A.len a4)),(12,.lst 57 a4),(6,.row 50 2),(3,.box 1 0),(2,.box 0 0)],[.box [.int .i64 E,.str a1,.str a2,.lst 29 a3,.lst 57 a4],.box [.int .i64 B,.str b1,.str b2,.lst 29 w,.lst 57 d],.row 50 y.2.2 true]⟩)
      (λy=>y.1<=n/\er false t.fl s.fl=(er false t.fl (s.fl.drop y.1)).map (y.2.1++ ·)/\y.2.1.length<=y.1/\y.2.2=bt dD y.2.1) (λy=>n-y.1) (0,[],.list []) ⟨bw _,yS,bX _,rfl⟩ ?_ ?_)
  ·exact⟨[0,1,3],rfl,yc⟩
  rintro⟨k,j,r⟩ ⟨hk,i,ac,hr⟩;simp only at hk i ac hr;cbv;constructor<;>intro h1
  ·skip
   first
    |(have x:=v
      have h5:k<t.fl.length:=lY X.a a h1;have U:=kQ X.a u h5)
    |(have h5:k<s.fl.length:=lY X.a c h1
      have U:=kQ X.a p h5)
   have k0:=U.1;have kt:=U.2.1;have kb:=U.2.2
   first
    |(have x:=v
      have T:=iX X.a u h5)
    |(have T:=iX X.a p h5)
   have ab:=jX X.a h5;have hB:∀row:List D,A.gr (A.add (A.len r) (A.len (A.lit [row]))) 4294967296:=λrow=>by rw[X.a,hr];simp only[SD];omega
   rw[bJ h5]at i;clear h1;cbv;refine⟨T,?_⟩
   first
    |(have x:=v
      refine X.call (QC p W k0 λg0 g1 g2 g3 g4 g5 g6 b P hb=>?_);have H:b=false->eg s.fl t.fl[k].s=none:=λe=>by rw[hb]at e;cases hf:eg s.fl t.fl[k].s with|none=>rfl|some g=>rw[hf]at e;cases e
      have N:b=true->∃g,eg s.fl t.fl[k].s=some g/\qV g g0 g1 g2 g3 g4 g5 g6:=λe=>by rw[hb]at e;cases hf:eg s.fl t.fl[k].s with|none=>rw[hf]at e;cases e|some g=>rw[hf]at P;exact⟨g,rfl,P⟩)
    |(refine X.call (QC u ad k0 λg0 g1 g2 g3 g4 g5 g6 b P hb=>?_)
      have H:b=false->eg t.fl s.fl[k].s=none:=λe=>by rw[hb]at e;cases hf:eg t.fl s.fl[k].s with|none=>rfl|some g=>rw[hf]at e;cases e
      have N:b=true->∃g,eg t.fl s.fl[k].s=some g/\qV g g0 g1 g2 g3 g4 g5 g6:=λe=>by rw[hb]at e;cases hf:eg t.fl s.fl[k].s with|none=>rw[hf]at e;cases e|some g=>rw[hf]at P;exact⟨g,rfl,P⟩)
   clear hb P;cases b with
   |false=>
    have z:A.not false=true:=by rw[Y];rfl
    have q:=F (by rw[i,yv (H rfl)];rfl);cbv;repeat' (first|apply bk|exact zf|(intro J;first|exact yB z J|cbv)|apply bB)
    all_goals exact q
   |true=>
    have z:A.not true=false:=by rw[Y];rfl
    obtain⟨g,hf,R⟩:=N rfl
    first
     |(have x:=v
       have q1:A.app r (A.lit [[.int g1,.str g2,.str g3,g4,g5,.int (A.asInt (A.cell d (bj k) 1)),.str (A.bG (A.cell d (bj k) 2)),.str (A.bG (A.cell d (bj k) 3)),A.cell d (bj k) 4,A.cell d (bj k) 5]])=bt dD (j++[(g.t,t.fl[k].t)]):=by rw[jk R.2.1 kt,X.a,hr];exact cD (k:=[(g.t,t.fl[k].t)])
       have Q:(t.fl[k].b&& !g.b)=false:=by rw[h _ (br h5)];rfl)
     |(have q1:A.app r (A.lit [[.int (A.asInt (A.cell a4 (bj k) 1)),.str (A.bG (A.cell a4 (bj k) 2)),.str (A.bG (A.cell a4 (bj k) 3)),A.cell a4 (bj k) 4,A.cell a4 (bj k) 5,.int g1,.str g2,.str g3,g4,g5]])=bt dD (j++[(s.fl[k].t,g.t)]):=by
        rw[jk kt R.2.1,X.a,hr];exact cD (k:=[(s.fl[k].t,g.t)])
       have Q:(s.fl[k].b&& !g.b)=false:=by rw[h _ (br h5)];rfl)
    rw[yw hf Q]at i;simp only[cA,if_false,if_true]at i;rw[yW]at i;clear N H;cbv;repeat' (first|apply bk|exact zf|(intro J;first|exact yB z J|cbv)|apply bB)
    all_goals try first|exact ab|exact hB _
    all_goals (
     first
      |(have x:=v
        refine⟨(k+1,j++[(g.t,t.fl[k].t)],_),⟨?_,i,?_,q1⟩,?_,[0,1,2],rfl,?_⟩)
      |(refine⟨(k+1,j++[(s.fl[k].t,g.t)],_),⟨?_,i,?_,q1⟩,?_,[0,1,2],rfl,?_⟩)
     ·simp only;omega
     ·simp only[bp,bI,bZ];omega
     ·simp only;omega
     exact yc)
  ·skip
   first
    |(have x:=v
      have h5:k=o:=gY X.a a h1;rw[h5,M,ch,er,cv,cz]at i)
    |(have h5:k=n:=gY X.a c h1
      rw[h5,I,ch,er,cv,cz]at i)
   have q:=m j r i hr;cbv;exact q)
def Vs:dH:={tt:=tt,n:=85,own:=[4,6],iU:=ZW.iU}
def abM{s t:Ty}(al:Ty.le 4294967295 s)(dA:Ty.le 4294967295 t)(has:0<s.ar.length)(H:0<t.ar.length){a0:Int}{a1 a2:S}{a3 a4:D}{b0:Int}{b1 b2:S}{v h:D}(hs:cr s a0 a1 a2 a3 a4)(ht:cr t b0 b1 b2 v h)
 (j:KZ s t=none->K (.tup [.row 50 0,.bool false]) [.row 50 (.list []) true]) (G:∀l r,KZ s t=some l->r=bt dD l->K (.tup [.row 50 0,.bool true]) [.row 50 r true]):
 FT 135 [] [dQ a0 a1 a2 a3 a4,dQ b0 b1 b2 v h] K:=by
 obtain⟨s0,s1,s2,U,E⟩:=id hs;obtain⟨t0,t1,t2,ab,F⟩:=id ht;have ai:s.fl.length<=4294967295:=by cases al;assumption
 have ak:t.fl.length<=4294967295:=by cases dA;assumption
 refine eo Vs Tryz.func135 λA C L X=>?_;have Y:=fg X.a;obtain⟨p,I,c⟩:=lenOf E;obtain⟨u,O,a⟩:=lenOf F;have i1:A.idx 0 (A.len a3):=by rw[X.a,U];exact cY (i:=0) has
 have i2:A.idx 0 (A.len v):=by rw[X.a,ab];exact cY (i:=0) H
 have hj:=jk (iS X.a U has) (iS X.a ab H);have o:=j;have m:=G;have j:er false s.fl t.fl=none->K (.tup [.row 50 0,.bool false]) [.row 50 (.list []) true]:=λe=>o (by unfold KZ;rw[e];split<;>rfl);cbv;refine lP X (λy=>y.1<=u/\er false s.fl t.fl=(er false s.fl (t.fl.drop y.1)).map (y.2.1++ ·)/\y.2.1.length<=y.1/\y.2.2=bt dD y.2.1) (λy=>u-y.1) (0,[],.list []) ⟨bw _,yS,bX _,rfl⟩ [0,1,3] (λ(y:Nat×List Jm×D)=>⟨[(18,.int .i64 y.1),(17,.int .i64 (A.len h)),(16,.lst 57 h),(6,.row 50 2),(3,.box 1 0),(2,.box 0 0)],[.box [.int .i64 a0,.str a1,.str a2,.lst 29 a3,.lst 57 a4],.box [.int .i64 b0,.str b1,.str b2,.lst 29 v,.lst 57 h],.row 50 y.2.2 true]⟩) ?_;rintro⟨k,n,r⟩ ⟨hk,w,ac,hr⟩;simp only at hk w ac hr;cbv;constructor<;>intro h1
 ·have h5:k<t.fl.length:=lY X.a a h1;have T:=kQ X.a F h5;have k0:=T.1;have kt:=T.2.1;have kb:=T.2.2;have R:=iX X.a F h5;have N:=jX X.a h5;have hB:∀row:List D,A.gr (A.add (A.len r) (A.len (A.lit [row]))) 4294967296:=λrow=>by rw[X.a,hr];simp only[SD];omega
  rw[bJ h5]at w;clear h1;cbv;refine⟨R,?_⟩;refine X.call (QC E ai k0 λg0 g1 g2 g3 g4 g5 g6 b hg hb=>?_);have V:b=false->eg s.fl t.fl[k].s=none:=λe=>by rw[hb]at e;cases hf:eg s.fl t.fl[k].s with|none=>rfl|some g=>rw[hf]at e;cases e
  have aa:b=true->∃g,eg s.fl t.fl[k].s=some g/\qV g g0 g1 g2 g3 g4 g5 g6:=λe=>by rw[hb]at e;cases hf:eg s.fl t.fl[k].s with|none=>rw[hf]at e;cases e|some g=>rw[hf]at hg;exact⟨g,rfl,hg⟩
  clear hb hg;cases b with
  |false=>
   have z:A.not false=true:=by rw[Y];rfl
   have q:=j (by rw[w,yv (V rfl)];rfl);cbv;repeat' (first|apply bk|exact zf|(intro J;first|exact yB z J|cbv)|apply bB)
   all_goals exact q
  |true=>
   have z:A.not true=false:=by rw[Y];rfl
   obtain⟨g,hf,P⟩:=aa rfl;have q1:A.app r (A.lit [[.int (A.asInt (A.cell h (bj k) 1)),.str (A.bG (A.cell h (bj k) 2)),.str (A.bG (A.cell h (bj k) 3)),A.cell h (bj k) 4,A.cell h (bj k) 5,.int g1,.str g2,.str g3,g4,g5]])=bt dD (n++[(t.fl[k].t,g.t)]):=by rw[jk kt P.2.1,X.a,hr];exact cD (k:=[(t.fl[k].t,g.t)])
   cases d:(t.fl[k].b&& !g.b)with
   |true=>
    have q:=j (by rw[w,vv hf d];rfl);rw[bn]at d;have B:A.asBool (A.cell h (bj k) 6)=true:=by rw[kb];exact d.1
    have z2:A.not g6=true:=by rw[Y,P.2.2];exact d.2
    cbv;repeat' (first|apply bk|exact zf|(intro J;first|exact yB z J|exact yB B J|exact yB z2 J|cbv)|apply bB)
    all_goals exact q
   |false=>
    have z3:A.asBool (A.cell h (bj k) 6)=true->A.not g6=true->False:=λx y=>by rw[kb]at x;rw[Y,P.2.2]at y;rw[x,y]at d;cases d
    rw[yw hf d]at w;simp only[cA,if_false,if_true]at w;rw[yW]at w;clear aa V;cbv;repeat' (first|apply bk|exact zf|(intro J;first|exact yB z J|cbv)|apply bB)
    all_goals try exact absurd yA (z3 yA)
    all_goals try exact(z3 yA yA).elim
    all_goals try first|exact N|exact hB _
    all_goals (
     refine⟨(k+1,n++[(t.fl[k].t,g.t)],_),⟨?_,w,?_,q1⟩,?_,[0,1,2],rfl,?_⟩
     ·simp only;omega
     ·simp only[bp,bI,bZ];omega
     ·simp only;omega
     exact yc)
 have h5:k=u:=gY X.a a h1;rw[h5,O,ch,er,cv,cz]at w;have ac:n.length<=4294967295:=yO;clear h1 hk h5;cbv;refine lP X (λk=>k<=p/\(s.fl.take k).all (λf=>(eg t.fl f.s).isSome||f.b)=true) (λk=>p-k) 0 ⟨bw _,rfl⟩ [0,1,2] (λ(k:Nat)=>⟨[(53,.int .i64 k),(52,.int .i64 (A.len a4)),(51,.lst 57 a4),(6,.row 50 2),(3,.box 1 0),(2,.box 0 0)],[.box [.int .i64 a0,.str a1,.str a2,.lst 29 a3,.lst 57 a4],.box [.int .i64 b0,.str b1,.str b2,.lst 29 v,.lst 57 h],.row 50 r true]⟩) ?_;rintro k ⟨hk,Q⟩;cbv;constructor<;>intro h1
 ·have h5:k<s.fl.length:=lY X.a c h1;have T:=kQ X.a E h5;have k0:=T.1;have kb:=T.2.2;have R:=iX X.a E h5;have N:=jX X.a h5;have M:((eg t.fl s.fl[k].s).isSome||s.fl[k].b)=false->K (.tup [.row 50 0,.bool false]) [.row 50 (.list []) true]:=λe=>o (by unfold KZ;rw[IP h5 e];rfl);have aj:((eg t.fl s.fl[k].s).isSome||s.fl[k].b)=true->(s.fl.take (k+1)).all (λf=>(eg t.fl f.s).isSome||f.b)=true:=λe=>lz h5 Q e;clear h1;cbv;repeat' (first|apply bk|exact zf|(intro J;cbv)|apply bB|(refine X.call (QC F ak k0 λg0 g1 g2 g3 g4 g5 g6 b hg hb=>?_);cbv))
  all_goals try first|exact R|exact N
  all_goals first
   |(have z:A.not b=true:=yA
     have B:A.not (A.asBool (A.cell a4 (bj k) 6))=true:=yA;rw[Y,hb]at z;rw[Y,kb]at B;exact M (by simp at z B;simp[z,B]))
   |(have e:((eg t.fl s.fl[k].s).isSome||s.fl[k].b)=true:=by
      first
       |(have z:A.not b=false:=yA
         rw[Y,hb]at z;have z:(eg t.fl s.fl[k].s).isSome=true:=yU z;rw[z];rfl)
       |(have B:A.not (A.asBool (A.cell a4 (bj k) 6))=false:=yA
         rw[Y,kb]at B;have B:s.fl[k].b=true:=yU B;rw[B,xz])
     exact⟨k+1,⟨yO,aj e⟩,yO,[0,1,2],rfl,yc⟩)
   |skip
 have h5:k=p:=gY X.a c h1;rw[h5,I,bz]at Q;have hF:KZ s t=some (n++[(rN s.ar,rN t.ar)]):=by unfold KZ EC;rw[Q,if_pos rfl,w];rfl
 have hB:∀row:List D,A.gr (A.add (A.len r) (A.len (A.lit [row]))) 4294967296:=λrow=>by rw[X.a,hr];simp only[SD];omega
 have W:A.app r (A.lit [[.int (A.asInt (A.cell a3 0 0)),.str (A.bG (A.cell a3 0 1)),.str (A.bG (A.cell a3 0 2)),A.cell a3 0 3,A.cell a3 0 4,.int (A.asInt (A.cell v 0 0)),.str (A.bG (A.cell v 0 1)),.str (A.bG (A.cell v 0 2)),A.cell v 0 3,A.cell v 0 4]])=bt dD (n++[(rN s.ar,rN t.ar)]):=by rw[qS has,qS H];refine gv (congrArg (λz=>A.app r (A.lit [z])) hj) ?_;rw[X.a,hr];exact cD (k:=[(s.ar[0],t.ar[0])])
 have q:=m _ _ hF W;clear h1 hk h5 j o G m;cbv;repeat' (first|apply bk|exact zf|(intro J;cbv)|apply bB)
 all_goals first|exact i1|exact i2|exact hB _|exact q|trace_state
end
end Go.VC.cc
namespace Go.VC
abbrev KY(de dc c dm:D)(wr:Bool)(r:D):List Ob:=[.box [.lst 97 de,.lst 73 dc,.row 9 4,.mp 2],.dead,.map .str 4 dm,.row 50 r true,.row 9 c wr]
def wi{t:Ty}(h:dV t=true)(hk:t.k=2\/t.k=3\/t.k=4):t= .mk t.k [] [] [] []:=by
 unfold dV at h;split at h
 ·cases h
 ·rw[if_pos yO]at h;cases t with|mk k m n ar fl=>
  simp[Ty.m,Ty.n,Ty.ar,Ty.fl,Ty.k]at h ⊢;exact⟨h.1.1.1,h.1.1.2,h.1.2,h.2⟩
def wg{t:Ty}(h:dV t=true)(hk:t.k=9):t= .mk 9 [] t.n [] []:=by
 unfold dV at h;split at h
 ·cases h
 ·simp only[hk]at h;simp only[show ¬((9:Int)=0\/(9:Int)=1\/(9:Int)=2\/(9:Int)=3\/(9:Int)=4)by decide,show ¬((9:Int)=5)by decide,show ¬((9:Int)=6\/(9:Int)=7)by decide,show ¬((9:Int)=8)by decide,if_false,if_true]at h;cases t with|mk k m n ar fl=>
  simp[Ty.m,Ty.n,Ty.ar,Ty.fl,Ty.k]at h hk ⊢;exact⟨hk,h.1.1,h.1.2,h.2⟩
def LO{s t:Ty}(hs:dV s=true)(i:dV t=true):(s.k==1||t.k==0||((s.k==2||s.k==3||s.k==4||s.k==9)&&same s t))=(s.k==1||t.k==0||(s.k==t.k&&(s.k==2||s.k==3||s.k==4))||(s.k==9&&t.k==9&&s.n==t.n)):=by
 by_cases h:s.k=2\/s.k=3\/s.k=4
 ·have e:same s t=(s.k==t.k):=by rw[cn,fL,beq_iff_eq];refine⟨λe=>by rw[e],λe=>?_⟩;rw[wi hs h,wi i (by rw[<- e];exact h),e]
  have b:¬s.k=9:=yO;rw[e];rcases h with h|h|h<;>simp[h,vY]
 ·by_cases b:s.k=9
  ·have e:same s t=(t.k==9&&s.n==t.n):=by rw[cn,fL,bn,beq_iff_eq,beq_iff_eq];refine⟨λe=>by rw[<- e];exact⟨b,rfl⟩,λ⟨e1,e2⟩=>?_⟩;rw[wg hs b,wg i e1,e2]
   rw[e,b];simp
  ·have:(s.k==2)=false/\(s.k==3)=false/\(s.k==4)=false/\(s.k==9)=false:=yQ;rw[this.1,this.2.1,this.2.2.1,this.2.2.2];simp
end Go.VC
namespace Go.VC.cc
open Go Go.VC Go.Proofs
section
variable {de dc c dm a3 a4 f g:D}{wr:Bool}{s t:Ty}{a d:Int}{a1 a2 b1 b2:S}{K:PV->List Ob->Prop}
def YZ:dH:={tt:=tt,n:=49,n0:=3,own:=[4]}
def F66(q:Ty.le 4294967295 s)(o:dV s=true)(k:dV t=true)(hs:cr s a a1 a2 a3 a4)(j:cr t d b1 b2 f g)
 (h:∀r b,mB (ym s t) r b->K (.tup [.row 50 3,.bool b]) (KY de dc c dm wr r)):
 FT 66 (qP de dc c dm wr) [.box 0 0,kq a a1 a2 a3 a4 d b1 b2 f g] K:=by
 obtain⟨v,E,z,i,l⟩:=id hs;obtain⟨w,B,y,p,m⟩:=id j;refine el YZ Tryz.func66 λA C L X=>?_;have Y:=fg X.a;have Z:=oY X.a;have u:∀n,A.eq a n=(s.k==n):=λn=>by rw[Z,v]
 have x:∀n,A.eq d n=(t.k==n):=λn=>by rw[Z,w]
 have key:∀b,b=(s.k==1||t.k==0||((s.k==2||s.k==3||s.k==4||s.k==9)&&same s t))->K (.tup [.row 50 3,.bool b]) (KY de dc c dm wr (.list [])):=λb e=>h _ _ (mB.p1 rfl (e.trans (LO o k)));clear h;cbv;repeat' (first|apply bk|exact zf|(intro J;cbv)|apply bB|(refine X.call (X2 s q hs j λb hb=>?_);cbv))
 all_goals (refine key _ ?_;clear key X Y Z i l p m hs j;simp only[fP,u,x]at *;clear u x v E z w B y;simp_all;done)
def YY:dH:={tt:=tt,n:=57,n0:=3,iU:=g67.iU,own:=[4,29]}
def F67(v:Ty.le 4294967295 s)(dA:Ty.le 4294967295 t)(u:s.rZ)(p:t.rZ)(hs:cr s a a1 a2 a3 a4)(B:cr t d b1 b2 f g)
 (h:∀r b,mB (j8 s t) r b->K (.tup [.row 50 3,.bool b]) (KY de dc c dm wr r)):
 FT 67 (qP de dc c dm wr) [.box 0 0,kq a a1 a2 a3 a4 d b1 b2 f g] K:=by
 obtain⟨x,Q,O,w,G⟩:=id hs;obtain⟨H,P,N,y,I⟩:=id B;have k:j8 s t=none->K (.tup [.row 50 3,.bool false]) (KY de dc c dm wr (.list [])):=λe=>h _ _ (mB.no e);have j:∀l r,j8 s t=some l->r=bt dD l->K (.tup [.row 50 3,.bool true]) (KY de dc c dm wr r):=λl r e o=>h _ _ (mB.yes e o);clear h;refine el YY Tryz.func67 λA C L X=>?_;have Y:=fg X.a;have Z:=oY X.a;have n:A.not (A.eq a d)= !(s.k==t.k):=by rw[Y,Z,x,H]
 have e5:A.eq a 5=(s.k==5):=by rw[Z,x]
 have e6:A.eq a 6=(s.k==6):=by rw[Z,x]
 have e7:A.eq a 7=(s.k==7):=by rw[Z,x]
 have e8:A.eq a 8=(s.k==8):=by rw[Z,x]
 cbv;by_cases hk:s.k=t.k
 ·have n:A.not (A.eq a d)=false:=by rw[n];simpa using hk
  by_cases h5:s.k=5
  ·have has:0<s.ar.length:=by rw[u.a (.inl h5)];decide
   have m:0<t.ar.length:=by rw[p.a (.inl (by rw[<- hk];exact h5))];decide
   have e5:A.eq a 5=true:=by rw[e5];simpa using h5
   have M:A.idx 0 (A.len a3):=by rw[X.a,w];exact cY (i:=0) has
   have E:A.idx 0 (A.len f):=by rw[X.a,y];exact cY (i:=0) m
   have F:=jk (iS X.a w has) (iS X.a y m);have q:=j _ _ (IE hk h5) (show A.lit [_]=_ by rw[qS has,qS m];refine gv (congrArg (λz=>A.lit [z]) F) ?_;rw[X.a];rfl);repeat' (first|apply bk|exact zf|(intro J;first|exact yB n J|exact yB e5 J|cbv)|apply bB)
   all_goals first|exact M|exact E|exact q
  have e5:A.eq a 5=false:=by rw[e5];simpa using h5
  by_cases h6:s.k=6
  ·have e6:A.eq a 6=true:=by rw[e6];simpa using h6
   rw[ID hk h6]at k j;repeat' (first|apply bk|exact zf|(intro J;first|exact yB n J|exact yB e5 J|exact yB e6 J|cbv)|apply bB|(refine X.call (mQH.1 v dA (p.r (.inl (by rw[<- hk];exact h6))).2 hs B (λe=>?_) (λl r e o=>?_));cbv))
   ·exact k e
   ·exact j _ _ e o
  have e6:A.eq a 6=false:=by rw[e6];simpa using h6
  by_cases h7:s.k=7
  ·have e7:A.eq a 7=true:=by rw[e7];simpa using h7
   rw[IC hk h7]at k j;repeat' (first|apply bk|exact zf|(intro J;first|exact yB n J|exact yB e5 J|exact yB e6 J|exact yB e7 J|cbv)|apply bB|(refine X.call (mQH.2 v dA (u.r (.inr h7)).2 hs B (λe=>?_) (λl r e o=>?_));cbv))
   ·exact k e
   ·exact j _ _ e o
  have e7:A.eq a 7=false:=by rw[e7];simpa using h7
  by_cases h8:s.k=8
  ·have has:0<s.ar.length:=by rw[u.a (.inr h8)];decide
   have m:0<t.ar.length:=by rw[p.a (.inr (by rw[<- hk];exact h8))];decide
   have e8:A.eq a 8=true:=by rw[e8];simpa using h8
   rw[IB hk h8]at k j;repeat' (first|apply bk|exact zf|(intro J;first|exact yB n J|exact yB e5 J|exact yB e6 J|exact yB e7 J|exact yB e8 J|cbv)|apply bB|(refine X.call (abM v dA has m hs B (λe=>?_) (λl r e o=>?_));cbv))
   ·exact k e
   ·exact j _ _ e o
  have e8:A.eq a 8=false:=by rw[e8];simpa using h8
  repeat' (first|apply bk|exact zf|(intro J;first|exact yB n J|exact yB e5 J|exact yB e6 J|exact yB e7 J|exact yB e8 J|cbv)|apply bB)
  all_goals exact k (Iz h5 h6 h7 h8)
 ·have n:A.not (A.eq a d)=true:=by rw[n];simpa using hk
  repeat' (first|apply bk|exact zf|(intro J;first|exact yB n J|cbv)|apply bB)
  all_goals exact k (IA hk)
end
end Go.VC.cc
namespace Go.VC
def Dh{env:List IF}:∀{k:Nat}{m n m' n':S},(∀x,fY env k m n= .th m' n' x->iZ env m' n'= .th x)/\(∀x,fY env k m n= .val m' n' x->iZ env m' n'= .val x)
 |0,m,n,m',n'=>⟨λx h=>by simp[fY]at h,λx h=>by simp[fY]at h⟩
 |k+1,m,n,m',n'=>by
  have a:= @Dh env k;refine⟨λx h=>?_,λx h=>?_⟩<;>rw[fY]at h<;>split at h
  all_goals first
   |(cases h;assumption)
   |(cases h;done)
   |exact a.1 x h
   |exact a.2 x h
def Jz{env:List IF}{m n:S}(h:(eZ env m n).2.2=0):cp env (eZ env m n).1 (eZ env m n).2.1=cp env m n:=by
 have key:∀m' n' L,iZ env m' n'=L->fY env 65 m' n'=fY env 65 m' n':=λ_ _ _ _=>rfl;unfold eZ lR at h ⊢;unfold cp;cases he:fY env 65 m n with
 |nf=>rw[he]at h;cases h
 |loop=>rw[he]at h;cases h
 |th m' n' x=>have:=Dh.1 x he;simp only;rw[fY,this]
 |val m' n' x=>have:=Dh.2 x he;simp only;rw[fY,this]
end Go.VC
namespace Go.VC.cc
open Go Go.VC Go.Proofs
def Vk:dH:={tt:=tt,n:=108,n0:=3,iU:=ZD.iU}
def abx{env:List IF}{de:D}(he:de=bt dy env)(dJ:ey env){dc Q dm:D}{wr:Bool}{s t:Ty}{E:Int}{a1 a2:S}{a3 a4:D}{x:Int}{b1 b2:S}{w b4:D}(hs:cr s E a1 a2 a3 a4)(ht:cr t x b1 b2 w b4)
 {K:PV->List Ob->Prop} (g:kJ env s t=none->K (.tup [.lst 73 (.list []),.bool false]) (QY de dc Q dm wr))
 (hy:∀ps d,kJ env s t=some (nD ps s.ar t.ar)->s.ar.length=ps.length->t.ar.length=ps.length->d=bt dB ps->K (.tup [.lst 73 d,.bool true]) (QY de dc Q dm wr)):
 FT 180 (qP de dc Q dm wr) [.box 0 0,kq E a1 a2 a3 a4 x b1 b2 w b4] K:=by
 obtain⟨s0,s1,s2,P,al⟩:=id hs;obtain⟨t0,t1,t2,W,am⟩:=id ht;refine el Vk Tryz.func180 λA C L X=>?_;have Y:=fg X.a;have Z:=oY X.a;have i:=OT X.a;by_cases hk:s.k≠10\/t.k≠10
 ·have q:=g (by unfold kJ;rw[if_pos hk])
  have y:A.not (A.eq E 10)=true\/A.not (A.eq x 10)=true:=by
   rcases hk with hk|hk
   ·exact .inl (by rw[Y,Z,s0];simpa using hk)
   ·exact .inr (by rw[Y,Z,t0];simpa using hk)
  clear g hy;cbv;repeat' (first|apply bk|exact zf|(intro J;first|(exfalso;rcases y with y|y<;>first|exact absurd (y.symm.trans (show A.not (A.eq E 10)=false by assumption)) yD|exact absurd (y.symm.trans (show A.not (A.eq x 10)=false by assumption)) yD)|cbv)|apply bB|exact q)
 have R:s.k=10:=by
  rcases pR (s.k=10)with e|e
  ·exact e
  ·exact absurd (.inl e) hk
 have U:t.k=10:=by
  rcases pR (t.k=10)with e|e
  ·exact e
  ·exact absurd (.inr e) hk
 have es:A.not (A.eq E 10)=false:=by rw[Y,Z,s0,R];rfl
 have et:A.not (A.eq x 10)=false:=by rw[Y,Z,t0,U];rfl
 cbv;repeat' (first|apply bk|exact zf|(intro J;first|exact yB es J|exact yB et J|cbv)|apply bB|(refine X.call (TZ (n:=a2) he dJ λr0 o r2 hr=>?_);cbv))
 refine X.call (TZ (n:=b2) he dJ λF M O hq=>?_);cbv;repeat' (first|apply bk|exact zf|(intro J;cbv)|apply bB|(refine X.call (Rp (m:=r0) (n:=o) he dJ λw0 j w2 w3 w4 w5 w6 w7 w8 w9 ap ai x1 x2 hx T v=>?_);cbv))
 all_goals (
  have c:(r0,o,r2)=eZ env s.m s.n:=by rw[<- s1,<-s2];unfold eZ;exact hr
  have B:(F,M,O)=eZ env t.m t.n:=by rw[<- t1,<-t2];unfold eZ;exact hq
  have hT:r2=0->cp env r0 o=cp env s.m s.n:=λe=>by have:=Jz (env:=env) (m:=s.m) (n:=s.n) (by rw[<- c];exact e);rw[<- c]at this;exact this
  obtain⟨ps,l⟩:∃ps,ps=(cp env s.m s.n).1.params:=⟨_,rfl⟩;obtain⟨V,k⟩:∃V,V=(cp env s.m s.n).2.2:=⟨_,rfl⟩;have h:=Ep hk c B k l;have b:r2=0->x2=V:=λe=>by rw[v,hT e,k]
  have f:r2=0->j=bt dB ps:=λe=>by rw[l,<-hT e];exact hx.2.1
  have ls:A.len a3=bj s.ar.length:=gE X.a P;have lt:A.len w=bj t.ar.length:=gE X.a W;have r:r2=0->A.len j=bj ps.length:=λe=>gE X.a (f e);clear hr hq hx T v c B hT l k)
 all_goals first
  |(have a:A.not (A.eq r2 0)=true:=yA
    rw[Y,Z]at a;exact g (by rw[h,if_pos (.inl (yU a))]))
  |(have a:A.not (A.eq r2 0)=false:=yA
    rw[Y,Z]at a;have a:r2=0:=yU a;have r:=r a;have b:=b a;have f:=f a
    first
     |(have z:A.not (A.eq O 0)=true:=yA
       rw[Y,Z]at z;exact g (by rw[h,if_pos (.inr (.inl (yU z)))]))
     |(have z:A.not (A.eq x2 0)=true:=yA
       rw[Y,Z]at z;exact g (by rw[h,if_pos (.inr (.inr (.inl (by rw[<- b];simpa using z))))]))
     |(have z:A.not (A.seq r0 F)=true:=yA
       rw[Y,i]at z;exact g (by rw[h,if_pos (.inr (.inr (.inr (.inl (yU z)))))]))
     |(have z:A.not (A.seq o M)=true:=yA
       rw[Y,i]at z;exact g (by rw[h,if_pos (.inr (.inr (.inr (.inr (.inl (yU z))))))]))
     |(have z:A.not (A.eq (A.len a3) (A.len j))=true:=yA
       rw[Y,Z,ls,r]at z;exact g (by rw[h,if_pos (.inr (.inr (.inr (.inr (.inr (.inl (by intro e;rw[e]at z;simp at z)))))))]))
     |(have z:A.not (A.eq (A.len w) (A.len j))=true:=yA
       rw[Y,Z,lt,r]at z;exact g (by rw[h,if_pos (.inr (.inr (.inr (.inr (.inr (.inr (by intro e;rw[e]at z;simp at z)))))))]))
     |(have H:A.not (A.eq O 0)=false:=yA
       have N:A.not (A.eq x2 0)=false:=yA;have I:A.not (A.seq r0 F)=false:=yA;have G:A.not (A.seq o M)=false:=yA;have u:A.not (A.eq (A.len a3) (A.len j))=false:=yA;have p:A.not (A.eq (A.len w) (A.len j))=false:=yA;rw[Y,Z]at H N;rw[Y,i]at I G;rw[Y,Z,ls,r]at u;rw[Y,Z,lt,r]at p;have H:O=0:=yU H;have N:x2=0:=yU N;have I:r0=F:=yU I;have G:o=M:=yU G;have u:s.ar.length=ps.length:=by simp at u;exact HX.1 u
       have p:t.ar.length=ps.length:=by simp at p;exact HX.1 p
       refine hy ps j ?_ u p f;rw[h,if_neg];rintro(e|e|e|e|e|e|e)
       ·exact e a
       ·exact e H
       ·exact e (b▸N)
       ·exact e I
       ·exact e G
       ·exact e u
       ·exact e p))
  |trace_state
end Go.VC.cc
namespace Go.VC
abbrev Ar:=Jm×S×Bool
def pX(x:Ar):List D:=dD x.1++[.str x.2.1,.bool x.2.2]
def Gl(n:S)(v:Int)(x y:Ty):List Ar:=(if v≠1 then [((x,y),n,false)]else [])++(if v≠0 then [((y,x),n,true)]else [])
def zX:List Pm->List Ty->List Ty->List Ar
 |p::ps,x::xs,y::ys=>Gl p.name p.var x y++zX ps xs ys
 |_,_,_=>[]
def FL:∀(ps:List Pm)(xs ys:List Ty),(zX ps xs ys).map (·.1)=nD ps xs ys
 |[],xs,ys=>rfl
 |p::ps,[],ys=>rfl
 |p::ps,x::xs,[]=>rfl
 |p::ps,x::xs,y::ys=>by
  rw[zX,nD,bS,FL ps xs ys,Gl]
  congr 1
  split<;>split<;>rfl
def Qe{ps:List Pm}{xs ys:List Ty}{k:Nat}(h1:k<ps.length)(J:k<xs.length)(h3:k<ys.length):zX (ps.drop k) (xs.drop k) (ys.drop k)=Gl ps[k].name ps[k].var xs[k] ys[k]++zX (ps.drop (k+1)) (xs.drop (k+1)) (ys.drop (k+1)):=by rw[bJ h1,bJ J,bJ h3,zX]
abbrev Yd(e:Nat)(de dc c dm:D)(wr:Bool)(r:D):List Ob:=[.box [.lst 97 de,.lst 73 dc,.row 9 4,.mp 2],.dead,.map .str 4 dm,.row e r true,.row 9 c wr]
end Go.VC
namespace Go.VC.cc
open Go Go.VC Go.Proofs
section
variable {env:List IF}{de dc c dm a3 a4 a g:D}{wr:Bool}{s t:Ty}{i f:Int}{a1 a2 b1 b2:S}{K:PV->List Ob->Prop}
def Xi(he:de=bt dy env)(dJ:ey env)(hs:cr s i a1 a2 a3 a4)(k:cr t f b1 b2 a g)
 (h:∀b ps d,(b=false->kJ env s t=none/\ps=[])->(b=true->kJ env s t=some (nD ps s.ar t.ar))->ps.length<=s.ar.length->ps.length<=t.ar.length->d=bt dB ps->K (.tup [.lst 73 d,.bool b]) (QY de dc c dm wr)):
 FT 180 (qP de dc c dm wr) [.box 0 0,kq i a1 a2 a3 a4 f b1 b2 a g] K:=
 abx he dJ hs k (λe=>h false [] _ (λ_=>⟨e,rfl⟩) (λe=>yC e) (bw _) (bw _) rfl) λps d e h1 J j=>h true ps d (λe=>yC e) (λ_=>e) yO yO j
def Vx:dH:={tt:=tt,n:=71,n0:=3,iU:=Z1.iU,own:=[8],live:=[180]}
def abQ(he:de=bt dy env)(dJ:ey env)(fW:s.ar.length<=1048576)(hs:cr s i a1 a2 a3 a4)(ht:cr t f b1 b2 a g)
 (T:kJ env s t=none->K (.tup [.row 184 3,.bool false]) (Yd 184 de dc c dm wr (.list [])))
 (R:∀l r,kJ env s t=some (l.map (·.1))->l.length<=2097152->r=bt pX l->K (.tup [.row 184 3,.bool true]) (Yd 184 de dc c dm wr r)):
 FT 121 (qP de dc c dm wr) [.box 0 0,kq i a1 a2 a3 a4 f b1 b2 a g] K:=by
 obtain⟨s0,s1,s2,B,af⟩:=id hs;obtain⟨t0,t1,t2,G,ag⟩:=id ht;refine el Vx Tryz.func121 λA C L X=>?_;have Y:=fg X.a;have Z:=oY X.a;cbv;refine X.call (Xi he dJ hs ht λb ps d hf v ai ah N=>?_);rw[<- FL]at v;have T:=λe=>T (hf e).1;have R:=λe r=>R _ r (v e);have hf:=λe=>(hf e).2;clear v;obtain⟨u,p,j⟩:=lenOf N;cbv;refine lP X (λy=>y.1<=u/\zX ps s.ar t.ar=y.2.1++zX (ps.drop y.1) (s.ar.drop y.1) (t.ar.drop y.1)/\y.2.1.length<=2*y.1/\y.2.2=bt pX y.2.1) (λy=>u-y.1) (0,[],.list []) ⟨bw _,rfl,bX _,rfl⟩ [0,1,2,6,5,4] (λ(y:Nat×List Ar×D)=>⟨[(19,.int .i64 y.1),(18,.int .i64 (A.len d)),(17,.lst 73 d),(8,.row 184 3),(7,.bool b),(3,.box 5 0)],[.box [.lst 97 de,.lst 73 dc,.row 9 4,.mp 2],.dead,.map .str 4 dm,.row 184 y.2.2 true,.row 9 c wr,.box [.int .i64 i,.str a1,.str a2,.lst 29 a3,.lst 57 a4,.int .i64 f,.str b1,.str b2,.lst 29 a,.lst 57 g]]⟩) ?_;rintro⟨k,o,r⟩ ⟨O,w,W,hr⟩;simp only at O w W hr;cbv;constructor<;>intro h1
 ·have h5:k<ps.length:=lY X.a j h1;have h6:k<s.ar.length:=yO;have h7:k<t.ar.length:=yO;have H:=Es X.a N h5;have y1:=iS X.a B h6;have y2:=iS X.a G h7;have aa:=iX X.a N h5;have P:=iX X.a B h6;have V:=iX X.a G h7;have Q:=jX X.a h5;have I:A.not (A.eq (A.asInt (A.cell d (bj k) 1)) 1)=decide (ps[k].var≠1):=by rw[Y,Z,H.2,cn];simp
  have M:A.not (A.eq (A.asInt (A.cell d (bj k) 1)) 0)=decide (ps[k].var≠0):=by rw[Y,Z,H.2,cn];simp
  have hB:∀row:List D,A.gr (A.add (A.len r) (A.len (A.lit [row]))) 4294967296:=λrow=>by rw[X.a,hr];simp only[SD];omega
  have p1:∀(d':D)(l:List Ar),d'=bt pX l->A.app d' (A.lit [[.int (A.asInt (A.cell a3 (bj k) 0)),.str (A.bG (A.cell a3 (bj k) 1)),.str (A.bG (A.cell a3 (bj k) 2)),A.cell a3 (bj k) 3,A.cell a3 (bj k) 4,.int (A.asInt (A.cell a (bj k) 0)),.str (A.bG (A.cell a (bj k) 1)),.str (A.bG (A.cell a (bj k) 2)),A.cell a (bj k) 3,A.cell a (bj k) 4,.str (A.bG (A.cell d (bj k) 0)),.bool false]])=bt pX (l++[((s.ar[k],t.ar[k]),ps[k].name,false)]):=λd' l e=>by have q:=jk y1 y2;rw[H.1,X.a,e];rw[X.a]at q;refine gv (congrArg (λz=>Std.app _ (Std.lit [z++[.str ps[k].name,.bool false]])) q) ?_;exact cD (k:=[((s.ar[k],t.ar[k]),ps[k].name,false)])
  have p2:∀(d':D)(l:List Ar),d'=bt pX l->A.app d' (A.lit [[.int (A.asInt (A.cell a (bj k) 0)),.str (A.bG (A.cell a (bj k) 1)),.str (A.bG (A.cell a (bj k) 2)),A.cell a (bj k) 3,A.cell a (bj k) 4,.int (A.asInt (A.cell a3 (bj k) 0)),.str (A.bG (A.cell a3 (bj k) 1)),.str (A.bG (A.cell a3 (bj k) 2)),A.cell a3 (bj k) 3,A.cell a3 (bj k) 4,.str (A.bG (A.cell d (bj k) 0)),.bool true]])=bt pX (l++[((t.ar[k],s.ar[k]),ps[k].name,true)]):=λd' l e=>by have q:=jk y2 y1;rw[H.1,X.a,e];rw[X.a]at q;refine gv (congrArg (λz=>Std.app _ (Std.lit [z++[.str ps[k].name,.bool true]])) q) ?_;exact cD (k:=[((t.ar[k],s.ar[k]),ps[k].name,true)])
  have E:∀(x:Ar)(d':D)(row:List D),d'=bt pX (o++[x])->A.gr (A.add (A.len d') (A.len (A.lit [row]))) 4294967296:=λx d' row e=>by rw[X.a,e];simp only[SD,bp,bI,bZ];omega
  have ab:=E _ _ [.int (A.asInt (A.cell a (bj k) 0)),.str (A.bG (A.cell a (bj k) 1)),.str (A.bG (A.cell a (bj k) 2)),A.cell a (bj k) 3,A.cell a (bj k) 4,.int (A.asInt (A.cell a3 (bj k) 0)),.str (A.bG (A.cell a3 (bj k) 1)),.str (A.bG (A.cell a3 (bj k) 2)),A.cell a3 (bj k) 3,A.cell a3 (bj k) 4,.str (A.bG (A.cell d (bj k) 0)),.bool true] (p1 r o hr);rw[Qe h5 h6 h7,<-bL]at w
  have h:∀r',r'=bt pX (o++Gl ps[k].name ps[k].var s.ar[k] t.ar[k])->(λy:Nat×List Ar×D=>y.1<=u/\zX ps s.ar t.ar=y.2.1++zX (ps.drop y.1) (s.ar.drop y.1) (t.ar.drop y.1)/\y.2.1.length<=2*y.1/\y.2.2=bt pX y.2.1) (k+1,o++Gl ps[k].name ps[k].var s.ar[k] t.ar[k],r'):=λr' e=>by
   refine⟨yP,w,?_,e⟩;have:(Gl ps[k].name ps[k].var s.ar[k] t.ar[k]).length<=2:=by unfold Gl;split<;>split<;>simp
   simp only[bp];omega
  clear h1 E;cbv;repeat' (first|apply bk|exact zf|(intro J;cbv)|apply bB)
  all_goals try first|exact aa|exact P|exact V|exact Q|exact hB _|exact ab
  all_goals first
   |(have n:A.not (A.eq (A.asInt (A.cell d (bj k) 1)) 1)=true:=yA
     have m:A.not (A.eq (A.asInt (A.cell d (bj k) 1)) 0)=true:=yA;rw[I]at n;rw[M]at m;have ev:Gl ps[k].name ps[k].var s.ar[k] t.ar[k]=[((s.ar[k],t.ar[k]),ps[k].name,false)]++[((t.ar[k],s.ar[k]),ps[k].name,true)]:=by unfold Gl;rw[if_pos (of_decide_eq_true n),if_pos (of_decide_eq_true m)]
     have q:=p2 _ _ (p1 _ _ hr);rw[bL,<-ev]at q;exact⟨_,h _ q,yP,[0,1,2,3,4,5],rfl,yc⟩)
   |(have n:A.not (A.eq (A.asInt (A.cell d (bj k) 1)) 1)=true:=yA
     have m:A.not (A.eq (A.asInt (A.cell d (bj k) 1)) 0)=false:=yA;rw[I]at n;rw[M]at m;have ev:Gl ps[k].name ps[k].var s.ar[k] t.ar[k]=[((s.ar[k],t.ar[k]),ps[k].name,false)]:=by unfold Gl;rw[if_pos (of_decide_eq_true n),if_neg (of_decide_eq_false m)];rfl
     have q:=p1 _ _ hr;rw[<- ev]at q;exact⟨_,h _ q,yP,[0,1,2,3,4,5],rfl,yc⟩)
   |(have n:A.not (A.eq (A.asInt (A.cell d (bj k) 1)) 1)=false:=yA
     have m:A.not (A.eq (A.asInt (A.cell d (bj k) 1)) 0)=true:=yA;rw[I]at n;rw[M]at m;have ev:Gl ps[k].name ps[k].var s.ar[k] t.ar[k]=[((t.ar[k],s.ar[k]),ps[k].name,true)]:=by unfold Gl;rw[if_neg (of_decide_eq_false n),if_pos (of_decide_eq_true m)];rfl
     have q:=p2 _ _ hr;rw[<- ev]at q;exact⟨_,h _ q,yP,[0,1,2,3,4,5],rfl,yc⟩)
   |(have n:A.not (A.eq (A.asInt (A.cell d (bj k) 1)) 1)=false:=yA
     have m:A.not (A.eq (A.asInt (A.cell d (bj k) 1)) 0)=false:=yA;rw[I]at n;rw[M]at m;have ev:Gl ps[k].name ps[k].var s.ar[k] t.ar[k]=[]:=by unfold Gl;rw[if_neg (of_decide_eq_false n),if_neg (of_decide_eq_false m)];rfl
     exact⟨_,h r (by rw[ev,cz];exact hr),yP,[0,1,2,3,4,5],rfl,yc⟩)
   |trace_state
 ·have h5:k=u:=gY X.a j h1;cases b with
  |false=>have e:=hf rfl;rw[e]at p;have F:o=[]:=cm (by simp at p;omega);have q:=T rfl;rw[F]at hr;have hr:r= .list []:=hr;subst hr;cbv;exact q
  |true=>
   have U:zX (ps.drop k) (s.ar.drop k) (t.ar.drop k)=[]:=by rw[h5,p,ch];cases s.ar.drop ps.length<;>rfl
   rw[U,cz]at w;have q:=R rfl r (by rw[w];omega) (by rw[w];exact hr);cbv;exact q
end
end Go.VC.cc
namespace Go.VC
def aag{A:pP}{l:List Ar}{d:D}{i:Nat}(ha:A=Std)(b:d=bt pX l)(h:i<l.length):[D.int (A.asInt (A.cell d (bj i) 0)),.str (A.bG (A.cell d (bj i) 1)),.str (A.bG (A.cell d (bj i) 2)),A.cell d (bj i) 3,A.cell d (bj i) 4,.int (A.asInt (A.cell d (bj i) 5)),.str (A.bG (A.cell d (bj i) 6)),.str (A.bG (A.cell d (bj i) 7)),A.cell d (bj i) 8,A.cell d (bj i) 9]=dD l[i].1:=by subst ha b;have e:pX l[i]=dD l[i].1++[.str l[i].2.1,.bool l[i].2.2]:=rfl;rw[cJ h,cJ h,cJ h,cJ h,cJ h,cJ h,cJ h,cJ h,cJ h,cJ h,e];unfold dD;rw[dn,dn];rfl
end Go.VC
namespace Go.VC.cc
open Go Go.VC Go.Proofs
section
variable {env:List IF}{de dc a dm a3 a4 c g:D}{wr:Bool}{s t:Ty}{j f:Int}{a1 a2 b1 b2:S}{K:PV->List Ob->Prop}
def Xv(he:de=bt dy env)(dJ:ey env)(fW:s.ar.length<=1048576)(hs:cr s j a1 a2 a3 a4)(d:cr t f b1 b2 c g)
 (h:∀b l r,(b=false->kJ env s t=none)->(b=true->kJ env s t=some (l.map (·.1)))->l.length<=2097152->r=bt pX l->K (.tup [.row 184 3,.bool b]) (Yd 184 de dc a dm wr r)):
 FT 121 (qP de dc a dm wr) [.box 0 0,kq j a1 a2 a3 a4 f b1 b2 c g] K:=
 abQ he dJ fW hs d (λe=>h false [] _ (λ_=>e) (λe=>yC e) (bw _) rfl) λl r e h1 hr=>h true l r (λe=>yC e) (λ_=>e) h1 hr
def YX:dH:={tt:=tt,n:=31,n0:=3,own:=[8],live:=[121]}
def F68(he:de=bt dy env)(dJ:ey env)(fW:s.ar.length<=1048576)(hs:cr s j a1 a2 a3 a4)(w:cr t f b1 b2 c g)
 (h:∀r b,mB (kJ env s t) r b->K (.tup [.row 50 3,.bool b]) (KY de dc a dm wr r)):
 FT 68 (qP de dc a dm wr) [.box 0 0,kq j a1 a2 a3 a4 f b1 b2 c g] K:=by
 refine el YX Tryz.func68 λA C L X=>?_;cbv;refine X.call (Xv he dJ fW hs w λb l d hf m hl o=>?_)
 have h:∀r,r=bt dD (l.map (·.1))->K (.tup [.row 50 3,.bool b]) (KY de dc a dm wr r):=λr hr=>h r b (by
  cases b with
  |false=>exact mB.no (hf rfl)
  |true=>exact mB.yes (m rfl) hr)
 clear hf m;obtain⟨i,n,e⟩:=lenOf o;cbv;refine lP X (λy=>y.1<=i/\y.2=bt dD ((l.take y.1).map (·.1))) (λy=>i-y.1) (0,.list []) ⟨bw _,rfl⟩ [0,1,2,7,6,5] (λ(y:Nat×D)=>⟨[(19,.int .i64 y.1),(18,.int .i64 (A.len d)),(17,.row 184 5),(8,.row 50 3),(7,.bool b)],[.box [.lst 97 de,.lst 73 dc,.row 9 4,.mp 2],.dead,.map .str 4 dm,.row 50 y.2 true,.row 9 a wr,.row 184 d true]⟩) ?_;rintro⟨k,r⟩ ⟨hk,hr⟩;simp only at hk hr;cbv;constructor<;>intro h1
 ·have h5:k<l.length:=lY X.a e h1;have q:=aag X.a o h5;have v:=iX X.a o h5;have p:=jX X.a h5;have hB:∀row:List D,A.gr (A.add (A.len r) (A.len (A.lit [row]))) 4294967296:=λrow=>by rw[X.a,hr];simp only[SD,bA,cF];omega
  have u:=congrArg (λz=>A.app r (A.lit [z])) q;have u:=u.trans (show A.app r (A.lit [dD l[k].1])=bt dD ((l.take (k+1)).map (·.1))by rw[map_take h5,X.a,hr];exact cD (k:=[l[k].1]));clear h1 q;cbv;repeat' (first|apply bk|exact zf|(intro J;cbv)|apply bB)
  all_goals try first|exact v|exact p|exact hB _
  exact⟨(k+1,_),⟨yP,u⟩,yP,[0,1,2,3,4,5],rfl,yc⟩
 ·have h5:k=i:=gY X.a e h1;rw[h5,n,bz]at hr;have q:=h r hr;cbv;exact q
end
end Go.VC.cc
