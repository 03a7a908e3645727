/- Part 9 of the common texts. -/
import Derived.Test.YtflmompnagpjeaaGreatDoorPart8
set_option linter.all false
set_option maxRecDepth 100000
set_option maxHeartbeats 16000000
open And renaming intro→bq
open Bool renaming and_eq_true→bw,eq_iff_iff→cM,false_eq_true→cv,or_assoc→vD,or_true→wX
open Decidable renaming em→pF
open Eq renaming trans→iu
open Int renaming ofNat→bk,ofNat_eq_natCast→bz,ofNat_inj→GU
open List renaming all_append→rX,all_cons→vC,append_assoc→bI,append_nil→cA,drop_eq_getElem_cons→bF,drop_length→cd,eq_nil_of_length_eq_zero→bY,eq_of_mem_replicate→pR,getElem_append_right→EU,getElem_mem→bu,length_append→bt,length_cons→bM,length_map→bL,length_nil→bX,length_take→cJ,map_append→cj,map_cons→bJ,mem_append→bG,mem_cons→bN,mem_flatMap→dp,mem_map→bP,replicate→eT,set_cons_zero→NA,sum_cons→cm,take_length→bD
open Nat renaming le_of_lt→JI,le_refl→cg,le_trans→bQ,min_eq_left→Cv,zero_le→bB
open Option renaming map_some→cr
open Or renaming inl→bE
namespace Go.VC
def xj{t:Ty}{a:Int}{a1 a2:S}{a3 a4:D}(h:cD t a a1 a2 a3 a4):[D.int a,.str a1,.str a2,a3,a4]=cq t:=by obtain⟨rfl,rfl,rfl,rfl,rfl⟩:=h;rw[dk]
def BH{A:pM}(ha:A=Std){l k:List Ty}{i:Nat}(h:i<k.length){n:Int}(b:n=bk (l.length+i)){d:D}(a:d=bA cq (l++k)){y:Ty}{row:List D}(hr:row=cq y):A.mY d n 0 row=bA cq (l++k.set i y):=by
 subst ha a hr;have hl:l.length+i<(l++k).length:=yQ;refine(qQ (i:=l.length+i) (y:=y) b hl ?_).trans ?_
 ·rw[dk,dk];rfl
 ·congr 1;simp
def Jv(t:Ty):Bool:=decide (256<t.size)||decide (16<t.zb)
noncomputable def Lc(i:IF):Bool:=decide (14<(qy i).length)||(eL i).any Jv
def FM:S:=[112,114,111,98,101,47,118,49]
noncomputable def J6(env:List IF):Bool:=decide ((sx env).2.2=0)&& !(env.any λi=>i.path==FM)&& !(env.any Lc)
end Go.VC
namespace Go.VC.cG
open Go Go.VC Go.Proofs
section
variable {K:PV->List Ob->Prop}{d:D}{l:List IF}{p:IF->Bool}
def Ud:ea:={tt:=tt,n:=19,n0:=2,qC:=[17],nh:=[3]}
def VU{l:List Pm}{e:D}(m:e=bA eU l)(hl:l.length<=1048576){a:List Ty}(v:d=bA cq a)(z:a.length+l.length<=4294967290)
 (h:∀r,r=bA cq (a++l.map Pm.bound)->K (.tup []) [.box [.row 29 2],.dead,.row 29 r true]):
 FT 156 [.box [.row 29 1],.row 29 d true] [.lst 73 e,.box 0 0] K:=by
 refine el Ud Tryz.func156 λA C L X=>?_;obtain⟨c,j,b⟩:=lenOf m;cbv;refine lP X (λy=>y.1<=c/\y.2=bA cq (a++(l.take y.1).map Pm.bound)) (λy=>c-y.1) (0,d) ⟨bB _,yU v⟩ [0,1,2] (λ(y:Nat×D)=>⟨[(7,.int .i64 y.1),(6,.int .i64 (A.len e)),(5,.lst 73 e),(1,.box 0 0)],[.box [.row 29 2],.dead,.row 29 y.2 true]⟩) ?_;rintro⟨i,r⟩ ⟨B,hr⟩;simp only at B hr;cbv;constructor<;>intro h1
 ·have h5:i<l.length:=lY X.a b h1;have w:=(kh X.a m h5).2.2;have t:=iX X.a m h5;have x:=jX X.a h5;have hz:A.app r (A.lit [[.int 0,.str [],.str [],.list [],.list []]])=bA cq ((a++(l.take i).map Pm.bound)++[Ty.zero]):=by rw[X.a,hr];exact cB (k:=[Ty.zero])
  have f:A.len r=bk ((a++(l.take i).map Pm.bound).length+0):=by rw[X.a,hr,da];rfl
  have u:A.gh (A.add (A.len r) (A.len (A.lit [[.int 0,.str [],.str [],.list [],.list []]]))) 4294967296:=by rw[f,X.a];simp only[SD,bt,bL,cJ];omega
  have o:A.idx (A.len r) (A.len (A.app r (A.lit [[.int 0,.str [],.str [],.list [],.list []]]))):=by rw[hz,f,X.a];exact cY (i:=(a++(l.take i).map Pm.bound).length+0) yS
  have g:=BH X.a (k:=[Ty.zero]) (i:=0) yS f hz (xj w);have n:A.mY (A.app r (A.lit [[.int 0,.str [],.str [],.list [],.list []]])) (A.len r) 0 [.int (A.asInt (A.cell e (bk i) 2)),.str (A.bH (A.cell e (bk i) 3)),.str (A.bH (A.cell e (bk i) 4)),A.cell e (bk i) 5,A.cell e (bk i) 6]=bA cq (a++(l.take (i+1)).map Pm.bound):=by rw[g,cb h5,cj,<-bI];rfl
  clear h1 g hz f;cbv;refine⟨t,?_⟩;refine X.cut (λ(r2:D)=>⟨[(7,.int .i64 i),(6,.int .i64 (A.len e)),(5,.lst 73 e),(1,.box 0 0)],[.box [.row 29 2],.dead,.row 29 r2 true]⟩) (λr2=>r2=bA cq (a++(l.take (i+1)).map Pm.bound)) ?_ ?_
  ·cbv;repeat' (first|apply bq|exact zf|(intro J;cbv)|apply bE)
   all_goals try first|exact u|exact o
   all_goals (
    exact⟨_,n,[0,1,2],rfl,yc⟩)
  intro r2 s;refine p1 ?_;exact⟨(i+1,r2),⟨yP,s⟩,yP,[0,1,2],rfl,yc⟩
 ·have h5:i=c:=gY X.a b h1;have q:=h r (by rw[hr,h5,j,bD]);cbv;exact q
def Zk{t:Ty}(c:Ty.le 4294967295 t)(hs:t.size<=4294967295){j:Int}{c1 c2:S}{f i:D}(g:cD t j c1 c2 f i)(h:∀b,b=Jv t->K (.bool b) []):
 FT 158 [] [dO j c1 c2 f i] K:=by
 refine en (cf 11) Tryz.func158 λA C L X=>?_;have a:=I6 X.a;cbv;refine X.call (VT c hs g λr hr=>?_);have e1:A.lt 256 r=decide (256<t.size):=by rw[a,hr];exact decide_eq_decide.2 yL
 have k:A.lt 256 r=true->K (.bool true) []:=λz=>h _ (by unfold Jv;rw[<- e1,z];rfl);cbv;repeat' (first|apply bq|exact zf|(intro J;cbv)|apply bE|(refine X.call (VS _ c hs g λr2 e=>?_);cbv))
 all_goals first
  |(have z:A.lt 256 r=true:=yA
    exact k z)
  |(have z:A.lt 256 r=false:=yA
    have e2:A.lt 16 r2=decide (16<t.zb):=by rw[a,e];exact decide_eq_decide.2 yL
    exact h _ (by unfold Jv;rw[<- e1,<-e2,z];rfl))
  |trace_state
def Nc{l:List Ty}{p:Ty->Bool}(j:d=bA cq l)(hl:l.length<=4294967295)
 (u:∀x∈l,∀(m:Int)(c1:S)(c2:S)(n:D)(o:D)(q:PV->List Ob->Prop),cD x m c1 c2 n o->(∀b,b=p x->q (.bool b) [])->FT 158 [] [dO m c1 c2 n o] q)
 (h:∀r:Int,r=jA p l->K (.int .i64 r) []):
 FT 203 [] [.lst 29 d,.cy 158 []] K:=by
 refine en Ri Tryz.func203 λA C L X=>?_;obtain⟨c,g,a⟩:=lenOf j;cbv;refine lu X (λi=>i<=c/\∀x∈l.take i,p x=false) (λi=>c-i) 0 ⟨bB _,yS⟩ (λ(i:Nat)=>[(8,.int .i64 i)]) ?_;rintro i ⟨v,ha⟩;cbv;constructor<;>intro h1
 ·have h5:i<l.length:=lY X.a a h1;have s:=gT X.a j h5;have t:=iX X.a j h5;have k:=jX X.a h5;refine p1 ?_;refine X.call (u _ (bu h5) _ _ _ _ _ _ s λb hb=>?_);have f:b=p l[i]:=hb;clear hb;cbv;repeat' (first|apply bq|exact zf|(intro J;cbv)|apply bE)
  any_goals exact k
  ·refine h i ?_;exact(fp h5 ha (by rw[<- f];obtain rfl:=X.a;simpa only[SD]using J)).symm
  ·have hf:p l[i]=false:=by rename_i h3;rw[<- f];obtain rfl:=X.a;simpa only[SD,dL]using h3
   refine⟨i+1,⟨yO,?_⟩,yO,?_⟩
   ·rw[cb h5];intro x e;rcases bG.1 e with e|e
    ·exact ha x e
    ·simp at e;subst e;exact hf
   exact yc
 ·have h5:i=c:=gY X.a a h1;subst h5;cbv;refine h (-1) ?_;rw[g,bD]at ha;exact(fq ha).symm
def Nj{l:List Ty}{p:Ty->Bool}(g:d=bA cq l)(hl:l.length<=4294967295)
 (i:∀x∈l,∀(a:Int)(c1:S)(c2:S)(c:D)(e:D)(f:PV->List Ob->Prop),cD x a c1 c2 c e->(∀b,b=p x->f (.bool b) [])->FT 158 [] [dO a c1 c2 c e] f)
 (h:∀b,b=l.any p->K (.bool b) []):
 FT 157 [] [.lst 29 d,.cy 158 []] K:=by
 refine en Rj Tryz.func157 λA C L X=>?_;cbv;refine X.call (Nc g hl i λr hr=>?_);have q:=h (A.le 0 r) (by rw[X.a,lL,jH,hr]);cbv;exact q
def Px(j:d=bA dC l)(hl:l.length<=4294967295)
 (u:∀x∈l,∀(m:S)(c1:D)(c2:D)(n:D)(o:D)(q:PV->List Ob->Prop),kn x m c1 c2 n o->(∀b,b=p x->q (.bool b) [])->FT 89 [] [nR m c1 c2 n o] q)
 (h:∀r:Int,r=jA p l->K (.int .i64 r) []):
 FT 154 [] [.lst 97 d,.cy 89 []] K:=by
 refine en Ue Tryz.func154 λA C L X=>?_;obtain⟨c,g,a⟩:=lenOf j;cbv;refine lu X (λi=>i<=c/\∀x∈l.take i,p x=false) (λi=>c-i) 0 ⟨bB _,yS⟩ (λ(i:Nat)=>[(8,.int .i64 i)]) ?_;rintro i ⟨v,ha⟩;cbv;constructor<;>intro h1
 ·have h5:i<l.length:=lY X.a a h1;have s:=mL X.a j h5;have t:=iX X.a j h5;have k:=jX X.a h5;refine p1 ?_;refine X.call (u _ (bu h5) _ _ _ _ _ _ s λb hb=>?_);have f:b=p l[i]:=hb;clear hb;cbv;repeat' (first|apply bq|exact zf|(intro J;cbv)|apply bE)
  any_goals exact k
  ·refine h i ?_;exact(fp h5 ha (by rw[<- f];obtain rfl:=X.a;simpa only[SD]using J)).symm
  ·have hf:p l[i]=false:=by rename_i h3;rw[<- f];obtain rfl:=X.a;simpa only[SD,dL]using h3
   refine⟨i+1,⟨yO,?_⟩,yO,?_⟩
   ·rw[cb h5];intro x e;rcases bG.1 e with e|e
    ·exact ha x e
    ·simp at e;subst e;exact hf
   exact yc
 ·have h5:i=c:=gY X.a a h1;subst h5;cbv;refine h (-1) ?_;rw[g,bD]at ha;exact(fq ha).symm
def R9(g:d=bA dC l)(hl:l.length<=4294967295)
 (i:∀x∈l,∀(a:S)(c1:D)(c2:D)(c:D)(e:D)(f:PV->List Ob->Prop),kn x a c1 c2 c e->(∀b,b=p x->f (.bool b) [])->FT 89 [] [nR a c1 c2 c e] f)
 (h:∀b,b=l.any p->K (.bool b) []):
 FT 88 [] [.lst 97 d,.cy 89 []] K:=by
 refine en ZX Tryz.func88 λA C L X=>?_;cbv;refine X.call (Px g hl i λr hr=>?_);have q:=h (A.le 0 r) (by rw[X.a,lL,jH,hr]);cbv;exact q
def Pw(j:d=bA dC l)(hl:l.length<=4294967295)
 (u:∀x∈l,∀(m:S)(c1:D)(c2:D)(n:D)(o:D)(q:PV->List Ob->Prop),kn x m c1 c2 n o->(∀b,b=p x->q (.bool b) [])->FT 90 [] [nR m c1 c2 n o] q)
 (h:∀r:Int,r=jA p l->K (.int .i64 r) []):
 FT 154 [] [.lst 97 d,.cy 90 []] K:=by
 refine en Ue Tryz.func154 λA C L X=>?_;obtain⟨c,g,a⟩:=lenOf j;cbv;refine lu X (λi=>i<=c/\∀x∈l.take i,p x=false) (λi=>c-i) 0 ⟨bB _,yS⟩ (λ(i:Nat)=>[(8,.int .i64 i)]) ?_;rintro i ⟨v,ha⟩;cbv;constructor<;>intro h1
 ·have h5:i<l.length:=lY X.a a h1;have s:=mL X.a j h5;have t:=iX X.a j h5;have k:=jX X.a h5;refine p1 ?_;refine X.call (u _ (bu h5) _ _ _ _ _ _ s λb hb=>?_);have f:b=p l[i]:=hb;clear hb;cbv;repeat' (first|apply bq|exact zf|(intro J;cbv)|apply bE)
  any_goals exact k
  ·refine h i ?_;exact(fp h5 ha (by rw[<- f];obtain rfl:=X.a;simpa only[SD]using J)).symm
  ·have hf:p l[i]=false:=by rename_i h3;rw[<- f];obtain rfl:=X.a;simpa only[SD,dL]using h3
   refine⟨i+1,⟨yO,?_⟩,yO,?_⟩
   ·rw[cb h5];intro x e;rcases bG.1 e with e|e
    ·exact ha x e
    ·simp at e;subst e;exact hf
   exact yc
 ·have h5:i=c:=gY X.a a h1;subst h5;cbv;refine h (-1) ?_;rw[g,bD]at ha;exact(fq ha).symm
def R8(g:d=bA dC l)(hl:l.length<=4294967295)
 (i:∀x∈l,∀(a:S)(c1:D)(c2:D)(c:D)(e:D)(f:PV->List Ob->Prop),kn x a c1 c2 c e->(∀b,b=p x->f (.bool b) [])->FT 90 [] [nR a c1 c2 c e] f)
 (h:∀b,b=l.any p->K (.bool b) []):
 FT 88 [] [.lst 97 d,.cy 90 []] K:=by
 refine en ZX Tryz.func88 λA C L X=>?_;cbv;refine X.call (Pw g hl i λr hr=>?_);have q:=h (A.le 0 r) (by rw[X.a,lL,jH,hr]);cbv;exact q
end
end Go.VC.cG
namespace Go.VC
def sA{i:IF}(h:i.fit):∀t∈eL i,t.fit:=by
 intro t a;unfold eL fe gr at a;rcases bG.1 a with a|a
 ·obtain⟨x,c,a⟩:=dp.1 a;have hf:=h.t x c;rcases bG.1 a with a|a
  ·simp at a;rcases a with rfl|rfl
   ·exact hf.lo
   ·exact hf.up
  ·obtain⟨p,b,rfl⟩:=bP.1 a;exact hf.p p b
 ·obtain⟨x,c,a⟩:=dp.1 a;have hf:=h.v x c;rcases bG.1 a with a|a
  ·simp at a;subst a;exact hf.ty
  ·obtain⟨p,b,rfl⟩:=bP.1 a;exact hf.p p b
end Go.VC
namespace Go.VC.cG
open Go Go.VC Go.Proofs
def WS:ea:={tt:=tt,n:=58,own:=[3],live:=[156],qC:=[29,30,31,50],nh:=[8,14]}
def F90{x:IF}{P:S}{c1 c2 H O:D}{K:PV->List Ob->Prop}(hx:kn x P c1 c2 H O)(eO:x.fit)(U:x.wt<=4294967290)
 (h:∀b,b=Lc x->K (.bool b) []):FT 90 [] [nR P c1 c2 H O] K:=by
 have ag:=hx;obtain⟨x0,G,I,az,ay⟩:=hx;have ek:=eO.ok;have nt:=ek.nt;have nv:=ek.nv;have ai:(eL x).length=(x.types.flatMap fe).length+(x.values.flatMap gr).length:=by unfold eL;rw[bt]
 have au:=xe x;refine en WS Tryz.func90 λA C L X=>?_;have ab:=I6 X.a;obtain⟨s,v,c⟩:=lenOf G;obtain⟨m,F,d⟩:=lenOf I;cbv;refine X.call (Ss ag ek yO λl r hr hs hm=>?_);have hl:=BU hs hm;have e1:A.lt 14 (A.len r)=decide (14<(qy x).length):=by rw[ab,X.a,hr,da,hl];exact decide_eq_decide.2 yO
 have T:A.lt 14 (A.len r)=true->K (.bool true) []:=λz=>h _ (by unfold Lc;rw[<- e1,z];rfl);have q2:A.lt 14 (A.len r)=false->∀b,b=(eL x).any Jv->K (.bool b) []:=λz b hb=>h _ (by unfold Lc;rw[<- e1,z,hb];rfl);cbv;refine⟨λh1=>by cbv;exact T h1,λh1=>?_⟩;have h:=q2 h1;clear T q2 e1 hl hm hs hr h1;cbv;refine lP X (λy=>y.1<=s/\y.2=bA cq ((x.types.take y.1).flatMap fe)) (λy=>s-y.1) (0,A.lit []) ⟨bB _,yX⟩ [0,1,2] (λ(y:Nat×D)=>⟨[(17,.int .i64 y.1),(16,.int .i64 (A.len c1)),(15,.lst 136 c1),(4,.cy 156 [.box 2 0]),(3,.box 2 0),(1,.box 0 0)],[.box [.str P,.lst 136 c1,.lst 91 c2,.lst 210 H,.lst 213 O],.row 29 y.2 true,.box [.row 29 1]]⟩) ?_;rintro⟨i,r⟩ ⟨hi,hr⟩;simp only at hi hr;cbv;constructor<;>intro h1
 ·have h5:i<x.types.length:=lY X.a c h1;obtain⟨k0,k1,k2,k3⟩:=mz X.a G h5;have N:=iX X.a G h5;have am:=jX X.a h5;have aa:=kY (f:=fe) h5;have j:=gk (f:=fe) h5;have aj:(fe x.types[i]).length=2+x.types[i].params.length:=by unfold fe;simp;omega
  have Q:=(eO.t _ (bu h5)).np;obtain⟨w,U⟩:∃w,w=(x.types.take i).flatMap fe:=⟨_,rfl⟩;rw[<- U]at hr aa j;have hz:A.app r (A.lit [[.int 0,.str [],.str [],.list [],.list []],[.int 0,.str [],.str [],.list [],.list []]])=bA cq (w++[Ty.zero,Ty.zero]):=by rw[X.a,hr];exact cB (k:=[Ty.zero,Ty.zero])
  have a:A.len r=bk (w.length+0):=by rw[X.a,hr,da];rfl
  have g:A.add (A.len r) 1=bk (w.length+1):=by rw[a,X.a];rfl
  have R:A.gh (A.add (A.len r) (A.len (A.lit [[.int 0,.str [],.str [],.list [],.list []],[.int 0,.str [],.str [],.list [],.list []]]))) 4294967296:=by rw[a,X.a];simp only[SD];omega
  have B:A.idx (A.len r) (A.len (A.app r (A.lit [[.int 0,.str [],.str [],.list [],.list []],[.int 0,.str [],.str [],.list [],.list []]]))):=by rw[hz,a,X.a];exact cY (i:=w.length+0) yS
  have ae:A.inr .i64 (A.add (A.len r) 1):=by rw[a,X.a];exact fm (n:=w.length+1) yO yO
  have s1:=BH X.a (k:=[Ty.zero,Ty.zero]) (i:=0) yS a hz (xj k2);have u:∀row:List D,row=cq x.types[i].lower->A.idx (A.add (A.len r) 1) (A.len (A.mY (A.app r (A.lit [[.int 0,.str [],.str [],.list [],.list []],[.int 0,.str [],.str [],.list [],.list []]])) (A.len r) 0 row)):=λrow e=>by rw[e,<-xj k2,s1,g,X.a];exact cY (i:=w.length+1) yS
  have W:A.idx (A.add (A.len r) 1) (A.len (A.app r (A.lit [[.int 0,.str [],.str [],.list [],.list []],[.int 0,.str [],.str [],.list [],.list []]]))):=by rw[hz,g,X.a];exact cY (i:=w.length+1) yS
  have o:=BH X.a (k:=[x.types[i].lower,Ty.zero]) (i:=1) yS g s1 (xj k3);have ah:=u _ (xj k2);clear h1 s1 hz a g u;cbv;refine⟨N,?_⟩;refine X.cut (λ(r2:D)=>⟨[(17,.int .i64 i),(16,.int .i64 (A.len c1)),(15,.lst 136 c1),(6,.box 3 0),(4,.cy 156 [.box 2 0]),(3,.box 2 0),(1,.box 0 0)],[.box [.str P,.lst 136 c1,.lst 91 c2,.lst 210 H,.lst 213 O],.row 29 r2 true,.box [.row 29 1],.box [.str (A.bH (A.cell c1 (bk i) 0)),.lst 73 (A.cell c1 (bk i) 1),.int .i64 (A.asInt (A.cell c1 (bk i) 2)),.str (A.bH (A.cell c1 (bk i) 3)),.str (A.bH (A.cell c1 (bk i) 4)),.lst 29 (A.cell c1 (bk i) 5),.lst 57 (A.cell c1 (bk i) 6),.int .i64 (A.asInt (A.cell c1 (bk i) 7)),.str (A.bH (A.cell c1 (bk i) 8)),.str (A.bH (A.cell c1 (bk i) 9)),.lst 29 (A.cell c1 (bk i) 10),.lst 57 (A.cell c1 (bk i) 11)]]⟩) (λr2=>r2=bA cq (w++[x.types[i].lower,x.types[i].upper])) ?_ ?_
  ·cbv;repeat' (first|apply bq|exact zf|(intro J;cbv)|apply bE)
   all_goals try first|exact R|exact B|exact ae|exact ah|exact W
   all_goals (
    exact⟨_,o,[0,1,2,3],rfl,yc⟩)
  intro r2 E;cbv;refine X.call (VU k1 Q E (by simp only[bt,bM,bX];omega) λV M=>?_);have T:V=bA cq ((x.types.take (i+1)).flatMap fe):=by rw[j,M,bI];rfl
  refine p1 ?_;exact⟨(i+1,V),⟨yP,T⟩,yP,[0,4,2],rfl,yc⟩
 have h5:i=s:=gY X.a c h1;rw[h5,v,bD]at hr;clear h1 hi h5;cbv;refine lP X (λy=>y.1<=m/\y.2=bA cq (x.types.flatMap fe++(x.values.take y.1).flatMap gr)) (λy=>m-y.1) (0,r) ⟨bB _,yU hr⟩ [0,1,2] (λ(y:Nat×D)=>⟨[(40,.int .i64 y.1),(39,.int .i64 (A.len c2)),(38,.lst 91 c2),(4,.cy 156 [.box 2 0]),(3,.box 2 0),(1,.box 0 0)],[.box [.str P,.lst 136 c1,.lst 91 c2,.lst 210 H,.lst 213 O],.row 29 y.2 true,.box [.row 29 1]]⟩) ?_;clear hr;rintro⟨i,r⟩ ⟨hi,hr⟩;simp only at hi hr;cbv;constructor<;>intro h1
 ·have h5:i<x.values.length:=lY X.a d h1;obtain⟨k0,k1,k2⟩:=oX X.a I h5;have N:=iX X.a I h5;have am:=jX X.a h5;have aa:=kY (f:=gr) h5;have j:=gk (f:=gr) h5;have aj:(gr x.values[i]).length=1+x.values[i].params.length:=by unfold gr;simp;omega
  have Q:=(eO.v _ (bu h5)).np;obtain⟨w,U⟩:∃w,w=x.types.flatMap fe++(x.values.take i).flatMap gr:=⟨_,rfl⟩;have av:w.length+(gr x.values[i]).length<=(eL x).length:=by rw[U,bt,ai];omega
  have j:w++gr x.values[i]=x.types.flatMap fe++(x.values.take (i+1)).flatMap gr:=by rw[j,U,bI]
  rw[<- U]at hr;have hz:A.app r (A.lit [[.int 0,.str [],.str [],.list [],.list []]])=bA cq (w++[Ty.zero]):=by rw[X.a,hr];exact cB (k:=[Ty.zero])
  have a:A.len r=bk (w.length+0):=by rw[X.a,hr,da];rfl
  have R:A.gh (A.add (A.len r) (A.len (A.lit [[.int 0,.str [],.str [],.list [],.list []]]))) 4294967296:=by rw[a,X.a];simp only[SD];omega
  have B:A.idx (A.len r) (A.len (A.app r (A.lit [[.int 0,.str [],.str [],.list [],.list []]]))):=by rw[hz,a,X.a];exact cY (i:=w.length+0) yS
  have o:=BH X.a (k:=[Ty.zero]) (i:=0) yS a hz (xj k2);clear h1 hz a;cbv;refine⟨N,?_⟩;refine X.cut (λ(r2:D)=>⟨[(40,.int .i64 i),(39,.int .i64 (A.len c2)),(38,.lst 91 c2),(8,.box 3 0),(4,.cy 156 [.box 2 0]),(3,.box 2 0),(1,.box 0 0)],[.box [.str P,.lst 136 c1,.lst 91 c2,.lst 210 H,.lst 213 O],.row 29 r2 true,.box [.row 29 1],.box [.str (A.bH (A.cell c2 (bk i) 0)),.lst 73 (A.cell c2 (bk i) 1),.int .i64 (A.asInt (A.cell c2 (bk i) 2)),.str (A.bH (A.cell c2 (bk i) 3)),.str (A.bH (A.cell c2 (bk i) 4)),.lst 29 (A.cell c2 (bk i) 5),.lst 57 (A.cell c2 (bk i) 6)]]⟩) (λr2=>r2=bA cq (w++[x.values[i].ty])) ?_ ?_
  ·cbv;repeat' (first|apply bq|exact zf|(intro J;cbv)|apply bE)
   all_goals try first|exact R|exact B
   all_goals (
    exact⟨_,o,[0,1,2,3],rfl,yc⟩)
  intro r2 E;cbv;refine X.call (VU k1 Q E (by simp only[bt,bM,bX];omega) λV M=>?_);have T:V=bA cq (x.types.flatMap fe++(x.values.take (i+1)).flatMap gr):=by rw[<- j,M,bI];rfl
  refine p1 ?_;exact⟨(i+1,V),⟨yP,T⟩,yP,[0,4,2],rfl,yc⟩
 have h5:i=m:=gY X.a d h1;rw[h5,F,bD]at hr;have hr:r=bA cq (eL x):=hr;clear h1 hi h5;cbv;refine X.call (Nj (p:=Jv) hr yO (λt ht P c1 c2 H O K' al ak=>Zk (sA eO t ht).le (by have:=(sA eO t ht).sz;omega) al ak) λb hb=>?_);have q:=h b hb;cbv;exact q
section
variable {K:PV->List Ob->Prop}
def F89{x:IF}{a:S}{c1 c2 d c:D}(e:kn x a c1 c2 d c)(h:∀b,b=(x.path==FM)->K (.bool b) []):FT 89 [] [nR a c1 c2 d c] K:=by refine en (cf 6) Tryz.func89 λA C L X=>?_;have q:=h (A.seq a [112,114,111,98,101,47,118,49]) (by rw[X.a,e.1];rfl);cbv;exact q
def F46{env:List IF}{de:D}(he:de=bA dC env)(ek:eH env)(eO:∀i∈env,i.fit)(lA:(env.map IF.wt).sum<=268435456)(hT:(pX env).2=0->∃C,JA env (lT env []) C)
 (h:∀b,b=J6 env->K (.bool b) []):
 FT 46 [] [.lst 97 de] K:=by
 have j:∀i∈env,i.wt<=268435456:=λi n=>bQ (sr n) lA;refine en (cf 24) Tryz.func46 λA C L X=>?_;have Y:=fz X.a;have Z:=qH X.a;have e:env.length<=4294967295:=ek.1;cbv;refine X.call (F87 he ek eO lA hT λa b r hr=>?_);have m:A.eq r 0=decide ((sx env).2.2=0):=by rw[Z,<-hr,cM];simp
 unfold J6 at h;rw[<- m]at h;clear hr;cbv;repeat' (first|apply bq|exact zf|(intro J;cbv)|apply bE|(refine X.call (R9 (p:=λi:IF=>i.path==FM) he e (λx k l a1 a2 a3 a4 o c d=>F89 c d) λb1 f=>?_);cbv)|(refine X.call (R8 (p:=Lc) he e (λx k l a1 a2 a3 a4 o c d=>F90 c (eO x k) (by have:=j x k;omega) d) λb2 g=>?_);cbv))
 all_goals first
  |(have z:A.eq r 0=false:=yA
    exact h _ (by rw[z];rfl))
  |(have z:A.eq r 0=true:=yA
    have y:A.not b1=false:=yA;rw[Y]at y;exact h _ (by rw[z,<-f,y];rfl))
  |(have z:A.eq r 0=true:=yA
    have y:A.not b1=true:=yA;rw[Y]at y;exact h _ (by rw[z,<-f,<-g,y];exact Y b2))
end
end Go.VC.cG
namespace Go.VC
abbrev qP(de dc a b:D)(wr:Bool):List Ob:=[.box [.lst 97 de,.lst 73 dc,.row 9 1,.mp 2],.row 9 a wr,.map .str 4 b]
abbrev PX(de dc a b:D)(wr:Bool):List Ob:=[.box [.lst 97 de,.lst 73 dc,.row 9 3,.mp 2],.dead,.map .str 4 b,.row 9 a wr]
def wz(f:Fe):Fe:=.mk f.s Ty.zero f.b
def EH(t:Ty):Ty:=.mk t.k t.m t.n (eT t.ar.length Ty.zero) (t.fl.map wz)
def gQ(env:List IF)(vs:List S)(t:Ty):Bool:=t.all.all λu=>decide (tk env vs (EH u)=0)
def Ef(env:List IF)(vs:List S)(t:Ty):gQ env vs t=(t.ar.all (gQ env vs)&&(t.fl.all λf=>gQ env vs f.t)&&decide (tk env vs (EH t)=0)):=by unfold gQ;rw[all_eq,vC,List.all_flatMap,Ty.er,rX,List.all_map,Bool.and_comm];rfl
def Ie(t:Ty):(EH t).er=eT t.er.length Ty.zero:=by
 refine List.eq_replicate_iff.2 ⟨?_,λu hu=>?_⟩
 ·simp[Ty.er,EH,Ty.ar,Ty.fl]
 ·rcases bG.1 hu with hu|hu
  ·exact pR hu
  ·obtain⟨f,hf,rfl⟩:=bP.1 hu;obtain⟨g,a,rfl⟩:=bP.1 hf;rfl
def O6{t:Ty}(h:t.mi):∀u∈(EH t).all,u.mi:=by
 intro u hu;rw[all_eq]at hu;rcases bN.1 hu with rfl|hu
 ·refine⟨h.m,h.n,?_⟩;intro f hf;obtain⟨g,b,rfl⟩:=bP.1 hf;exact h.f g b
 ·obtain⟨v,a,hu⟩:=dp.1 hu;rw[Ie]at a;rw[pR a]at hu;exact CH u hu
def RL{t:Ty}(h:Ty.le 4294967295 t):Ty.le 4294967295 (EH t):=by
 cases h with|mk _ ha hf h1 J=>
 refine .mk _ ?_ ?_ (λu hu=>?_) λf a=>?_
 ·show (eT t.ar.length Ty.zero).length<=_;simpa using ha
 ·show (t.fl.map wz).length<=_;simpa using hf
 ·rw[pR hu];exact oc
 ·obtain⟨g,b,rfl⟩:=bP.1 a;exact oc
def MD(t:Ty):(EH t).size<=t.size:=by
 have h:=iU t
 have e:∀n,((eT n Ty.zero).map Ty.size).sum=n:=λn=>by
  induction n with
  |zero=>rfl
  |succ n a=>rw[List.replicate_succ,bJ,cm,a];show 1+n=_;omega
 rw[size_eq,Ie,e];omega
end Go.VC
namespace Go.VC.cG
open Go Go.VC Go.Proofs
def WU:ea:={tt:=tt,n:=69,n0:=3,iT:=g72.iT,live:=[72],nh:=[2]}
def X9{env:List IF}{de dc Q E:D}{vs:List S}{wr:Bool}(he:de=bA dC env)(ek:eH env)(hv:E=bA encS vs)(ab:vs.length<=4294967295):∀(t:Ty),Ty.le 4294967295 t->t.size<=4294967290->(∀u∈t.all,u.mi)->∀{B:Int}{c1 c2:S}{o G:D}(ht:cD t B c1 c2 o G){K:PV->List Ob->Prop}
 (h:∀b,b=gQ env vs t->K (.bool b) (PX de dc E Q wr)),FT 72 (qP de dc E Q wr) [.box 0 0,dO B c1 c2 o G] K:=by
 refine Ty.gj λt ih=>?_;intro w fh F B c1 c2 o G ht K h;obtain⟨t0,t1,t2,P,x⟩:=ht;have ai:t.ar.length<=4294967295:=by cases w;assumption
 have am:t.fl.length<=4294967295:=by cases w;assumption
 obtain⟨an,ag⟩:=xq (t:=t) yO;have ao:t.er.length=t.ar.length+t.fl.length:=by simp[Ty.er]
 have W:∀u∈t.er,u.size<=4294967290:=λu hu=>by have h1:=size_eq t;have J:u.size<=(t.er.map Ty.size).sum:=ph (bP.2 ⟨u,hu,rfl⟩);omega
 have aa:∀u∈t.er,∀v∈u.all,v.mi:=λu hu v hv=>F v (jL hu hv);have V:(t.ar.all (gQ env vs)=false\/(t.fl.all λf=>gQ env vs f.t)=false)->K (.bool false) (PX de dc E Q wr):=λe=>h _ (by rw[Ef];rcases e with e|e<;>rw[e]<;>simp);have s:t.ar.all (gQ env vs)=true->(t.fl.all λf=>gQ env vs f.t)=true->∀b,b=decide (tk env vs (EH t)=0)->K (.bool b) (PX de dc E Q wr):=λe1 e2 b hb=>h _ (by rw[Ef,e1,e2,hb];rfl);clear h;refine el WU Tryz.func72 λA C L X=>?_;have Y:=fz X.a;have Z:=qH X.a;obtain⟨d,p,a⟩:=lenOf P;obtain⟨n,I,m⟩:=lenOf x;have b1:A.gh (A.len o) (A.len o):=by rw[X.a,a];simp only[SD];omega
 have b2:A.gh (A.len o) 4294967296:=by rw[X.a,a];simp only[SD];omega
 have e1:A.QT (A.len o) [.int 0,.str [],.str [],.list [],.list []]=bA cq (eT d Ty.zero):=by rw[X.a,a];simp[Std,dz,bA,cq,vq,vt,Ty.zero]
 cbv;refine X.cut (λ(z:D×D)=>⟨[(5,.box 5 0),(3,.box 4 0),(0,.box 0 0)],[.box [.lst 97 de,.lst 73 dc,.row 9 3,.mp 2],.dead,.map .str 4 Q,.row 9 E wr,.box [.int .i64 B,.str c1,.str c2,.lst 29 o,.lst 57 G],.box [.int .i64 B,.str c1,.str c2,.row 29 6,.row 57 7],.row 29 z.1 true,.row 57 z.2 true]⟩) (λz=>z.1=bA cq (eT d Ty.zero)/\z.2=bA eZ t.fl) ?_ ?_
 ·cbv;repeat' (first|apply bq|exact zf|(intro J;cbv)|apply bE|(refine X.call (VZ x yO λr hr=>?_);cbv))
  all_goals try first|exact b1|exact b2
  all_goals first
   |(exact⟨(_,r),⟨e1,hr⟩,[0,1,2,3,4,5,6,7],rfl,yc⟩
     done)
   |(exact⟨(_,r),⟨e1,hr⟩,[0,1,2,3,4,5,7,6],rfl,yc⟩
     done)
   |trace_state
 rintro⟨T,R⟩ ⟨g,j⟩;simp only at g j;clear e1 b1 b2;cbv;refine lP X (λy=>y.1<=d/\(t.ar.take y.1).all (gQ env vs)=true/\y.2=bA cq (eT d Ty.zero)) (λy=>d-y.1) (0,T) ⟨bB _,rfl,g⟩ [0,1,2,3,4,5,6,7] (λ(y:Nat×D)=>⟨[(23,.int .i64 y.1),(22,.int .i64 (A.len o)),(21,.lst 29 o),(5,.box 5 0),(3,.box 4 0),(0,.box 0 0)],[.box [.lst 97 de,.lst 73 dc,.row 9 3,.mp 2],.dead,.map .str 4 Q,.row 9 E wr,.box [.int .i64 B,.str c1,.str c2,.lst 29 o,.lst 57 G],.box [.int .i64 B,.str c1,.str c2,.row 29 6,.row 57 7],.row 29 y.2 true,.row 57 R true]⟩) ?_;clear g;rintro⟨k,T⟩ ⟨hk,c,g⟩;simp only at hk c g;cbv;constructor<;>intro h1
 ·have h5:k<t.ar.length:=lY X.a a h1;have q:=gT X.a P h5;have N:=iX X.a P h5;have M:=jX X.a h5;have l:t.ar[k]∈t.er:=by simp[Ty.er]
  have H:A.idx (bk k) (A.len T):=by rw[X.a,g];exact cY yQ
  have O:A.mY T (bk k) 0 [.int 0,.str [],.str [],.list [],.list []]=bA cq (eT d Ty.zero):=by rw[<- g];exact re X.a g yQ (by rw[List.getElem_replicate];rfl)
  clear h1;cbv;refine⟨N,?_⟩;refine X.call (ih _ l (ie w _ l) (W _ l) (aa _ l) q λb hb=>?_);cbv;repeat' (first|apply bq|exact zf|(intro J;cbv)|apply bE)
  all_goals try first|exact M|exact H
  ·have z:A.not b=true:=yA;rw[Y]at z;exact V (.inl (all_false h5 (by rw[<- hb];simpa using z)))
  ·have z:A.not b=false:=yA;rw[Y]at z;exact⟨(k+1,_),⟨yP,mW h5 c (by rw[<- hb];simpa using z),O⟩,yP,[0,1,2,9,4,5,6,7],rfl,yc⟩
 have h5:k=d:=gY X.a a h1;rw[h5,p,bD]at c;have s:=s c;clear h1 hk h5 c;cbv;refine lP X (λy=>y.1<=n/\(t.fl.take y.1).all (λf=>gQ env vs f.t)=true/\y.2=bA eZ ((t.fl.take y.1).map wz++t.fl.drop y.1)) (λy=>n-y.1) (0,R) ⟨bB _,rfl,j⟩ [0,1,2,3,4,5,6,7] (λ(y:Nat×D)=>⟨[(41,.int .i64 y.1),(40,.int .i64 (A.len G)),(39,.lst 57 G),(5,.box 5 0),(3,.box 4 0),(0,.box 0 0)],[.box [.lst 97 de,.lst 73 dc,.row 9 3,.mp 2],.dead,.map .str 4 Q,.row 9 E wr,.box [.int .i64 B,.str c1,.str c2,.lst 29 o,.lst 57 G],.box [.int .i64 B,.str c1,.str c2,.row 29 6,.row 57 7],.row 29 T true,.row 57 y.2 true]⟩) ?_;clear j;rintro⟨k,R⟩ ⟨hk,c,j⟩;simp only at hk c j;cbv;constructor<;>intro h1
 ·have h5:k<t.fl.length:=lY X.a m h1;have q:=jS X.a x h5;have N:=iX X.a x h5;have M:=jX X.a h5;have l:t.fl[k].t∈t.er:=by simp only[Ty.er,bG,bP];exact .inr ⟨_,bu h5,rfl⟩
  have aj:((t.fl.take k).map wz++t.fl.drop k).length=n:=yQ;have H:A.idx (bk k) (A.len R):=by rw[X.a,j];exact cY yO
  have U:A.mY R (bk k) 1 [.int 0,.str [],.str [],.list [],.list []]=bA eZ ((t.fl.take (k+1)).map wz++t.fl.drop (k+1)):=by
   rw[X.a,j];have hg:((t.fl.take k).map wz++t.fl.drop k)[k]'yO=t.fl[k]:=by rw[EU (by simp only[bL,cJ];omega)];simp[cJ,Cv (JI h5)]
   refine(qQ (i:=k) (y:=wz t.fl[k]) rfl yO ?_).trans ?_
   ·rw[hg,ku,ku];rfl
   ·congr 1
    rw[List.set_append_right _ _ (by simp only[bL,cJ];omega),map_take h5,bF h5,show k-((t.fl.take k).map wz).length=0 by simp only[bL,cJ];omega,NA,bI];rfl
  clear h1;cbv;refine⟨N,?_⟩;refine X.call (ih _ l (ie w _ l) (W _ l) (aa _ l) q λb hb=>?_);cbv;repeat' (first|apply bq|exact zf|(intro J;cbv)|apply bE)
  all_goals try first|exact M|exact H
  ·have z:A.not b=true:=yA;rw[Y]at z;exact V (.inr (all_false h5 (by rw[<- hb];simpa using z)))
  ·have z:A.not b=false:=yA;rw[Y]at z;exact⟨(k+1,_),⟨yP,mW h5 c (by rw[<- hb];simpa using z),U⟩,yP,[0,1,2,9,4,5,6,7],rfl,yc⟩
 have h5:k=n:=gY X.a m h1;rw[h5,I,bD]at c j;rw[cd,cA]at j;have s:=s c;rw[p]at g;clear h1 hk h5 c;cbv;repeat' (first|apply bq|exact zf|(intro J;cbv)|apply bE|(refine X.call (Nk he ek hv ab (t:=EH t) (RL w) (by have:=MD t;omega) (O6 (F t (gy t))) ⟨t0,t1,t2,g,j⟩ λr hr=>?_);cbv))
 all_goals (
  have q:=s (A.eq r 0) (by rw[Z,hr,cM];simp);first|exact q|(cbv;exact q)|trace_state)
end Go.VC.cG
namespace Go.VC
def kJ(ctx:List Pm):List S:=ctx.map Pm.name
def zd(env:List IF):List S->List Pm->Bool
 |_,[]=>true
 |vs,p::l=>Fg p.name&& !vs.contains p.name&&gQ env vs p.bound&&zd env (vs++[p.name]) l
noncomputable def Gz(env:List IF)(ctx:List Pm):Bool:=J6 env&&zd env [] ctx
noncomputable def sT(env:List IF)(ctx:List Pm)(s t:Ty):Bool:=Gz env ctx&&(gQ env (kJ ctx) s&&gQ env (kJ ctx) t)
def Ty.fit.z{t:Ty}(h:t.fit):t.size<=4294967290:=by have:=h.sz;omega
structure JH (env:List IF) (de:D):Prop where
 he:de=bA dC env
 ek:eH env
 eO:∀i∈env,i.fit
 lA:(env.map IF.wt).sum<=268435456
 hT:(pX env).2=0->∃C,JA env (lT env []) C
end Go.VC
namespace Go.VC.cG
open Go Go.VC Go.Proofs
section
variable {dc a3 a4 a d:D}{K:PV->List Ob->Prop}{s t:Ty}{f c:Int}{a1 a2 b1 b2:S}{ctx:List Pm}
def W7:ea:={tt:=tt,n:=15,n0:=3,live:=[72]}
def Z5{env:List IF}{de n k:D}{vs:List S}{wr:Bool}(he:de=bA dC env)(ek:eH env)(l:k=bA encS vs)(e:vs.length<=4294967295)(fs:s.fit)(i:t.fit)
 (ha:cD s f a1 a2 a3 a4) (hb:cD t c b1 b2 a d)
 (h:∀b,b=(gQ env vs s&&gQ env vs t)->K (.bool b) (PX de dc k n wr)):FT 36 (qP de dc k n wr) [.box 0 0,lH f a1 a2 a3 a4 c b1 b2 a d] K:=by
 refine el W7 Tryz.func36 λA C L X=>?_;cbv;refine X.call (X9 he ek l e s fs.le fs.z fs.mi ha λm g=>?_);rw[<- g]at h;clear g;cbv;repeat' (first|apply bq|exact zf|(intro J;cbv)|apply bE|(refine X.call (X9 he ek l e t i.le i.z i.mi hb λr2 j=>?_);cbv))
 all_goals first
  |(have z:m=true:=yA
    exact h _ (by rw[z,j];rfl))
  |(have z:m=false:=yA
    exact h _ (by rw[z];rfl))
def W3:ea:={tt:=tt,n:=55,iT:=g64.iT,own:=[14],live:=[72],qC:=[41]}
def F64{env:List IF}{de:D}(E:JH env de)(hc:dc=bA eU ctx)(mZ:ctx.length<=1048576)(I:∀p∈ctx,p.bound.fit/\p.name.length<=1048576)
 (h0:Gz env ctx=false->K .nilp []) (h1:Gz env ctx=true->∀r O,r=bA encS (kJ ctx)->O= .list []->K (.box 0 0) (qP de dc r O true)):
 FT 64 [] [.lst 97 de,.lst 73 dc] K:=by
 refine el W3 Tryz.func64 λA C L X=>?_;have Y:=fz X.a;obtain⟨n,m,g⟩:=lenOf hc;cbv;refine X.call (F46 E.he E.ek E.eO E.lA E.hT λb hb=>?_);cases b with
 |false=>
  have q:=h0 (by unfold Gz;rw[<- hb];rfl);have z:A.not false=true:=by rw[Y];rfl
  cbv;repeat' (first|apply bq|exact zf|(intro J;first|exact yB z J|cbv)|apply bE)
  all_goals exact q
 |true=>
  have z:A.not true=false:=by rw[Y];rfl
  have h0:zd env [] ctx=false->K .nilp []:=λe=>h0 (by unfold Gz;rw[<- hb,e];rfl);have F:zd env [] ctx=true->_:=λe=>h1 (by unfold Gz;rw[<- hb,e];rfl);clear hb;cbv;repeat' (first|apply bq|exact zf|(intro J;first|exact yB z J|cbv)|apply bE)
  refine lP X (λy=>y.1<=n/\zd env [] ctx=zd env (kJ (ctx.take y.1)) (ctx.drop y.1)/\y.2=bA encS (kJ (ctx.take y.1))) (λy=>n-y.1) (0,.list []) ⟨bB _,rfl,rfl⟩ [4,3,0] (λ(y:Nat×D)=>⟨[(18,.int .i64 y.1),(17,.int .i64 (A.len dc)),(16,.lst 73 dc),(5,.box 0 0)],[.box [.lst 97 de,.lst 73 dc,.row 9 1,.mp 2],.row 9 y.2 true,.map .str 4 (.list [])]⟩) ?_;rintro⟨i,r⟩ ⟨Q,l,h⟩;simp only at Q l h;cbv;constructor<;>intro h1
  ·have h5:i<ctx.length:=lY X.a g h1;obtain⟨v,T,R⟩:=kh X.a hc h5;have H:=iX X.a hc h5;have B:=jX X.a h5;obtain⟨x,U⟩:=I _ (bu h5);have P:(kJ (ctx.take i)).length=i:=by unfold kJ;rw[bL,cJ];omega
   have u:A.app r (A.lit [[.str (A.bH (A.cell dc (bk i) 0))]])=bA encS (kJ (ctx.take (i+1))):=by rw[v,X.a,h,kJ,kJ,cb h5,cj];exact cB (k:=[ctx[i].name])
   have N:A.gh (A.add (A.len r) (A.len (A.lit [[.str (A.bH (A.cell dc (bk i) 0))]]))) 4294967296:=by rw[X.a,h];simp only[SD];omega
   rw[bF h5,zd]at l;have G:(A.bH (A.cell dc (bk i) 0)).length<=4294967295:=by rw[v];omega
   clear h1;cbv;repeat' (first|apply bq|exact zf|(intro J;cbv)|apply bE|(refine X.call (V0 G λb1 o=>?_);cbv)|(refine X.call (Sa h yO λb2 j=>?_);cbv)|(refine X.call (X9 E.he E.ek h yO _ x.le x.z x.mi R λa M=>?_);cbv))
   all_goals try first|exact H|exact B|exact N
   all_goals (
    have o:b1=Fg (A.bH (A.cell dc (bk i) 0)):=o;rw[v]at o;rw[<- o]at l)
   all_goals first
    |(have z:A.not b1=true:=yA
      rw[Y]at z;exact h0 (by rw[l,(by simpa using z:b1=false)];rfl))
    |(have z:A.not b1=false:=yA
      rw[Y]at z;have j:b2=(kJ (ctx.take i)).contains (A.bH (A.cell dc (bk i) 0)):=j;rw[v]at j;have j:b2=List.elem ctx[i].name (kJ (ctx.take i)):=j;rw[<- j,(by simpa using z:b1=true)]at l
      first
       |(have y:b2=true:=J
         exact h0 (by rw[l,y];rfl))
       |(have y:b2=false:=yA
         rw[<- M,y]at l
         first
          |(have w:A.not a=true:=yA
            rw[Y]at w;exact h0 (by rw[l,(by simpa using w:a=false)];rfl))
          |(have w:A.not a=false:=yA
            rw[Y]at w;rw[(by simpa using w:a=true)]at l;refine⟨(i+1,_),⟨yP,?_,u⟩,yP,[0,4,2],rfl,?_⟩
            ·rw[l];show zd _ _ _=_;unfold kJ;rw[cb h5,cj];rfl
            (cbv;repeat' apply bq);all_goals try first|trivial|rfl|(rw[X.a];rfl))))
    |trace_state
  ·have h5:i=n:=gY X.a g h1;rw[h5,m,bD]at h;rw[h5,m,cd,zd]at l;have q:=F l r _ h rfl;cbv;exact q
def Xf:ea:={tt:=tt,n:=29,iT:=g28.iT,live:=[36,64]}
def Z8{env:List IF}{de:D}(E:JH env de)(hc:dc=bA eU ctx)(mZ:ctx.length<=1048576)(k:∀p∈ctx,p.bound.fit/\p.name.length<=1048576)(fs:s.fit)(l:t.fit)
 (ha:cD s f a1 a2 a3 a4) (hb:cD t c b1 b2 a d)
 (h0:sT env ctx s t=false->K (.tup [.nilp,lH f a1 a2 a3 a4 c b1 b2 a d]) []) (h1:sT env ctx s t=true->∀g h,g=bA encS (kJ ctx)->h= .list []->K (.tup [.box 0 0,lH f a1 a2 a3 a4 c b1 b2 a d]) (qP de dc g h true)):
 FT 28 [] [.lst 97 de,.lst 73 dc,dO f a1 a2 a3 a4,dO c b1 b2 a d] K:=by
 refine el Xf Tryz.func28 λA C L X=>?_;have Y:=fz X.a;cbv;refine X.call (F64 E hc mZ k (λe=>?_) λe g h b i=>?_)
 ·have q:=h0 (by unfold sT;rw[e];rfl);cbv;repeat' (first|apply bq|exact zf|(intro J;cbv)|apply bE)
  all_goals first|exact q|trace_state
 ·unfold sT at h0 h1;rw[e]at h0 h1;have j:(kJ ctx).length<=4294967295:=by unfold kJ;rw[bL];omega
  cbv;repeat' (first|apply bq|exact zf|(intro J;cbv)|apply bE|(refine X.call (Z5 E.he E.ek b j fs l ha hb λr hr=>?_);cbv))
  all_goals first
   |(have z:A.not r=true:=yA
     rw[Y]at z;exact h0 (by rw[<- hr,(by simpa using z:r=false)];rfl))
   |(have z:A.not r=false:=yA
     rw[Y]at z;exact h1 (by rw[<- hr,(by simpa using z:r=true)];rfl) g h b i)
end
section
variable {K:PV->List Ob->Prop}{s a1 a2 b1 b2:S}{t:Ty}{o m:Int}{a3 a4 j a d:D}{l:List Fe}
def M8{p:Fe->Bool}(n:d=bA eZ l)(hl:l.length<=4294967295)
 (G:∀x∈l,∀(u:S)(c1:Int)(c2:S)(v:S)(z:D)(w:D)(y:Bool)(B:PV->List Ob->Prop),l9 x u c1 c2 v z w y->(∀b,b=p x->B (.bool b) [])->FT 212 [] [mO u c1 c2 v z w y,.cP [.str s] 0] B)
 (h:∀r:Int,r=jA p l->K (.int .i64 r) []):
 FT 208 [] [.lst 57 d,.cy 212 [.cP [.str s] 0]] K:=by
 refine en OJ Tryz.func208 λA C L X=>?_;obtain⟨e,k,c⟩:=lenOf n;cbv;refine lu X (λi=>i<=e/\∀x∈l.take i,p x=false) (λi=>e-i) 0 ⟨bB _,yS⟩ (λ(i:Nat)=>[(8,.int .i64 i)]) ?_;rintro i ⟨H,ha⟩;cbv;constructor<;>intro h1
 ·have h5:i<l.length:=lY X.a c h1;have E:=iR X.a n h5;have F:=iX X.a n h5;have q:=jX X.a h5;refine p1 ?_;refine X.call (G _ (bu h5) _ _ _ _ _ _ _ _ E λb hb=>?_);have g:b=p l[i]:=hb;clear hb;cbv;repeat' (first|apply bq|exact zf|(intro J;cbv)|apply bE)
  any_goals exact q
  ·refine h i ?_;exact(fp h5 ha (by rw[<- g];obtain rfl:=X.a;simpa only[SD]using J)).symm
  ·have hf:p l[i]=false:=by rename_i h3;rw[<- g];obtain rfl:=X.a;simpa only[SD,dL]using h3
   refine⟨i+1,⟨yO,?_⟩,yO,?_⟩
   ·rw[cb h5];intro x f;rcases bG.1 f with f|f
    ·exact ha x f
    ·simp at f;subst f;exact hf
   exact yc
 ·have h5:i=e:=gY X.a c h1;subst h5;cbv;refine h (-1) ?_;rw[k,bD]at ha;exact(fq ha).symm
def Y5{x:Fe}{c:S}{c1:Int}{c2 e:S}{i f:D}{g:Bool}(n:l9 x c c1 c2 e i f g)(h:∀b,b=(x.s==s)->K (.bool b) []):
 FT 212 [] [mO c c1 c2 e i f g,.cP [.str s] 0] K:=by
 obtain⟨k,_⟩:=n;refine en (cf 8) Tryz.func212 λA C L X=>?_;have q:=h (A.seq c s) (by rw[X.a,<-k];rfl);cbv;exact q
def Pu(e:d=bA eZ l)(hl:l.length<=4294967295){c:S}(hs:c=s)
 (h:∀u e1 e2 e3 y v w b,l9 ((dD l s).getD Fe.zero) u e1 e2 e3 y v w->b=(dD l s).isSome->K (.tup [mO u e1 e2 e3 y v w,.bool b]) []):
 FT 172 [] [.lst 57 d,.str c] K:=by
 subst hs;refine en (cf 17) Tryz.func172 λA C L X=>?_;have c8:=I6 X.a;cbv;refine X.call (M8 (p:=λx=>x.s==c) e hl (λx M I c1 c2 E H F G N f g=>Y5 f g) λr hr=>?_);have hr:r=jA (λx:Fe=>x.s==c) l:=hr;rcases ve (p:=λx:Fe=>x.s==c) (l:=l)with⟨e1,e2⟩|⟨i,B,e1,e2⟩
 ·have e2:dD l c=none:=e2;have z:A.lt r 0=true:=by rw[c8,hr,e1];rfl
  have q:=h [] 0 [] [] (.list []) (.list []) false false (by rw[e2];exact⟨rfl,⟨rfl,rfl,rfl,rfl,rfl⟩,rfl⟩) (by rw[e2];rfl);cbv;repeat' (first|apply bq|exact zf|(intro J;first|exact yB z J|cbv)|apply bE)
  exact q
 ·have e2:dD l c=some l[i]:=e2;have n:r=bk i:=by rw[hr,e1];rfl
  subst n;have z:A.lt (bk i) 0=false:=by rw[c8];simp only[bz];simp
  have k:=iX X.a e B;have q:=h _ _ _ _ _ _ _ true (by rw[e2];exact iR X.a e B) (by rw[e2];rfl);cbv;repeat' (first|apply bq|exact zf|(intro J;first|exact yB z J|cbv)|apply bE)
  all_goals first|exact k|exact q|skip
def Uj:ea:={tt:=tt,n:=38,own:=[4,6]}
def Zw{s:Ty}(R:Ty.le 4294967295 s)(c8:Ty.le 4294967295 t)(v:∀f∈t.fl,f.b=false)(hs:cD s o a1 a2 a3 a4)(U:cD t m b1 b2 j a)
 (F:eg true s.fl t.fl=none->K (.tup [.row 50 0,.bool false]) [.row 50 (.list []) true]) (x:∀l r,eg true s.fl t.fl=some l->r=bA eB l->K (.tup [.row 50 0,.bool true]) [.row 50 r true]):
 FT 133 [] [dO o a1 a2 a3 a4,dO m b1 b2 j a] K:=by
 obtain⟨s0,s1,s2,T,I⟩:=id hs;obtain⟨t0,t1,t2,aa,p⟩:=id U;have H:s.fl.length<=4294967295:=by cases R;assumption
 have ab:t.fl.length<=4294967295:=by cases c8;assumption
 refine eo Uj Tryz.func133 λA C L X=>?_;have Y:=fz X.a;obtain⟨h,u,c⟩:=lenOf p;cbv;refine lP X (λy=>y.1<=h/\eg true s.fl t.fl=(eg true s.fl (t.fl.drop y.1)).map (y.2.1++ ·)/\y.2.1.length<=y.1/\y.2.2=bA eB y.2.1) (λy=>h-y.1) (0,[],.list []) ⟨bB _,yS,cg _,rfl⟩ [0,1,3] (λ(y:Nat×List Jm×D)=>⟨[(14,.int .i64 y.1),(13,.int .i64 (A.len a)),(12,.lst 57 a),(6,.row 50 2),(3,.box 1 0),(2,.box 0 0)],[.box [.int .i64 o,.str a1,.str a2,.lst 29 a3,.lst 57 a4],.box [.int .i64 m,.str b1,.str b2,.lst 29 j,.lst 57 a],.row 50 y.2.2 true]⟩) ?_;rintro⟨k,n,r⟩ ⟨hk,i,P,hr⟩;simp only at hk i P hr;cbv;constructor<;>intro h1
 ·have h5:k<t.fl.length:=lY X.a c h1;have E:=iR X.a p h5;have V:=E.1;have kt:=E.2.1;have kb:=E.2.2;have Q:=iX X.a p h5;have N:=jX X.a h5;have hB:∀row:List D,A.gh (A.add (A.len r) (A.len (A.lit [row]))) 4294967296:=λrow=>by rw[X.a,hr];simp only[SD];omega
  rw[bF h5]at i;clear h1;cbv;refine⟨Q,?_⟩;refine X.call (Pu I H V λg0 g1 g2 g3 g4 g5 g6 b G hb=>?_);have w:b=false->dD s.fl t.fl[k].s=none:=λe=>by rw[hb]at e;cases hf:dD s.fl t.fl[k].s with|none=>rfl|some g=>rw[hf]at e;cases e
  have B:b=true->∃g,dD s.fl t.fl[k].s=some g/\l9 g g0 g1 g2 g3 g4 g5 g6:=λe=>by rw[hb]at e;cases hf:dD s.fl t.fl[k].s with|none=>rw[hf]at e;cases e|some g=>rw[hf]at G;exact⟨g,rfl,G⟩
  clear hb G;cases b with
  |false=>
   have z:A.not false=true:=by rw[Y];rfl
   have q:=F (by rw[i,ov (w rfl)];rfl);cbv;repeat' (first|apply bq|exact zf|(intro J;first|exact yB z J|cbv)|apply bE)
   all_goals exact q
  |true=>
   have z:A.not true=false:=by rw[Y];rfl
   obtain⟨g,hf,O⟩:=B rfl;have W:A.app r (A.lit [[.int g1,.str g2,.str g3,g4,g5,.int (A.asInt (A.cell a (bk k) 1)),.str (A.bH (A.cell a (bk k) 2)),.str (A.bH (A.cell a (bk k) 3)),A.cell a (bk k) 4,A.cell a (bk k) 5]])=bA eB (n++[(g.t,t.fl[k].t)]):=by rw[j5 O.2.1 kt,X.a,hr];exact cB (k:=[(g.t,t.fl[k].t)])
   have M:(t.fl[k].b&& !g.b)=false:=by rw[v _ (bu h5)];rfl
   rw[ow hf M]at i;simp only[cv,if_false,if_true]at i;rw[oB]at i;clear B w;cbv;repeat' (first|apply bq|exact zf|(intro J;first|exact yB z J|cbv)|apply bE)
   all_goals try first|exact N|exact hB _
   all_goals (
    refine⟨(k+1,n++[(g.t,t.fl[k].t)],_),⟨?_,i,?_,W⟩,?_,[0,1,2],rfl,?_⟩
    ·simp only;omega
    ·simp only[bt,bM,bX];omega
    ·simp only;omega
    exact yc)
 ·have h5:k=h:=gY X.a c h1;rw[h5,u,cd,eg,cr,cA]at i;have q:=x n r i hr;cbv;exact q
def Ui:ea:={tt:=tt,n:=38,own:=[4,6]}
def Zv{s:Ty}(R:Ty.le 4294967295 s)(c8:Ty.le 4294967295 t)(v:∀f∈s.fl,f.b=false)(hs:cD s o a1 a2 a3 a4)(U:cD t m b1 b2 j a)
 (F:eg false t.fl s.fl=none->K (.tup [.row 50 0,.bool false]) [.row 50 (.list []) true]) (x:∀l r,eg false t.fl s.fl=some l->r=bA eB l->K (.tup [.row 50 0,.bool true]) [.row 50 r true]):
 FT 134 [] [dO o a1 a2 a3 a4,dO m b1 b2 j a] K:=by
 obtain⟨s0,s1,s2,T,u⟩:=id hs;obtain⟨t0,t1,t2,ab,H⟩:=id U;have aa:s.fl.length<=4294967295:=by cases R;assumption
 have P:t.fl.length<=4294967295:=by cases c8;assumption
 refine eo Ui Tryz.func134 λA C L X=>?_;have Y:=fz X.a;obtain⟨h,n,c⟩:=lenOf u;cbv;refine lP X (λy=>y.1<=h/\eg false t.fl s.fl=(eg false t.fl (s.fl.drop y.1)).map (y.2.1++ ·)/\y.2.1.length<=y.1/\y.2.2=bA eB y.2.1) (λy=>h-y.1) (0,[],.list []) ⟨bB _,yS,cg _,rfl⟩ [0,1,3] (λ(y:Nat×List Jm×D)=>⟨[(14,.int .i64 y.1),(13,.int .i64 (A.len a4)),(12,.lst 57 a4),(6,.row 50 2),(3,.box 1 0),(2,.box 0 0)],[.box [.int .i64 o,.str a1,.str a2,.lst 29 a3,.lst 57 a4],.box [.int .i64 m,.str b1,.str b2,.lst 29 j,.lst 57 a],.row 50 y.2.2 true]⟩) ?_;rintro⟨k,p,r⟩ ⟨hk,i,O,hr⟩;simp only at hk i O hr;cbv;constructor<;>intro h1
 ·have h5:k<s.fl.length:=lY X.a c h1;have E:=iR X.a u h5;have V:=E.1;have kt:=E.2.1;have kb:=E.2.2;have Q:=iX X.a u h5;have M:=jX X.a h5;have hB:∀row:List D,A.gh (A.add (A.len r) (A.len (A.lit [row]))) 4294967296:=λrow=>by rw[X.a,hr];simp only[SD];omega
  rw[bF h5]at i;clear h1;cbv;refine⟨Q,?_⟩;refine X.call (Pu H P V λg0 g1 g2 g3 g4 g5 g6 b G hb=>?_);have w:b=false->dD t.fl s.fl[k].s=none:=λe=>by rw[hb]at e;cases hf:dD t.fl s.fl[k].s with|none=>rfl|some g=>rw[hf]at e;cases e
  have B:b=true->∃g,dD t.fl s.fl[k].s=some g/\l9 g g0 g1 g2 g3 g4 g5 g6:=λe=>by rw[hb]at e;cases hf:dD t.fl s.fl[k].s with|none=>rw[hf]at e;cases e|some g=>rw[hf]at G;exact⟨g,rfl,G⟩
  clear hb G;cases b with
  |false=>
   have z:A.not false=true:=by rw[Y];rfl
   have q:=F (by rw[i,ov (w rfl)];rfl);cbv;repeat' (first|apply bq|exact zf|(intro J;first|exact yB z J|cbv)|apply bE)
   all_goals exact q
  |true=>
   have z:A.not true=false:=by rw[Y];rfl
   obtain⟨g,hf,N⟩:=B rfl;have W:A.app r (A.lit [[.int (A.asInt (A.cell a4 (bk k) 1)),.str (A.bH (A.cell a4 (bk k) 2)),.str (A.bH (A.cell a4 (bk k) 3)),A.cell a4 (bk k) 4,A.cell a4 (bk k) 5,.int g1,.str g2,.str g3,g4,g5]])=bA eB (p++[(s.fl[k].t,g.t)]):=by rw[j5 kt N.2.1,X.a,hr];exact cB (k:=[(s.fl[k].t,g.t)])
   have I:(s.fl[k].b&& !g.b)=false:=by rw[v _ (bu h5)];rfl
   rw[ow hf I]at i;simp only[cv,if_false,if_true]at i;rw[oB]at i;clear B w;cbv;repeat' (first|apply bq|exact zf|(intro J;first|exact yB z J|cbv)|apply bE)
   all_goals try first|exact M|exact hB _
   all_goals (
    refine⟨(k+1,p++[(s.fl[k].t,g.t)],_),⟨?_,i,?_,W⟩,?_,[0,1,2],rfl,?_⟩
    ·simp only;omega
    ·simp only[bt,bM,bX];omega
    ·simp only;omega
    exact yc)
 ·have h5:k=h:=gY X.a c h1;rw[h5,n,cd,eg,cr,cA]at i;have q:=x p r i hr;cbv;exact q
def Uh:ea:={tt:=tt,n:=85,own:=[4,6],iT:=XM.iT}
def Zu{s:Ty}(am:Ty.le 4294967295 s)(c8:Ty.le 4294967295 t)(has:0<s.ar.length)(N:0<t.ar.length)(hs:cD s o a1 a2 a3 a4)(ht:cD t m b1 b2 j a)
 (p:JR s t=none->K (.tup [.row 50 0,.bool false]) [.row 50 (.list []) true]) (M:∀l r,JR s t=some l->r=bA eB l->K (.tup [.row 50 0,.bool true]) [.row 50 r true]):
 FT 135 [] [dO o a1 a2 a3 a4,dO m b1 b2 j a] K:=by
 obtain⟨s0,s1,s2,aa,H⟩:=id hs;obtain⟨t0,t1,t2,ae,I⟩:=id ht;have aj:s.fl.length<=4294967295:=by cases am;assumption
 have al:t.fl.length<=4294967295:=by cases c8;assumption
 refine eo Uh Tryz.func135 λA C L X=>?_;have Y:=fz X.a;obtain⟨B,O,h⟩:=lenOf H;obtain⟨E,R,c⟩:=lenOf I;have i1:A.idx 0 (A.len a3):=by rw[X.a,aa];exact cY (i:=0) has
 have i2:A.idx 0 (A.len j):=by rw[X.a,ae];exact cY (i:=0) N
 have hj:=j5 (gT X.a aa has) (gT X.a ae N);have w:=p;have u:=M;have p:eg false s.fl t.fl=none->K (.tup [.row 50 0,.bool false]) [.row 50 (.list []) true]:=λe=>w (by unfold JR;rw[e];split<;>rfl);cbv;refine lP X (λy=>y.1<=E/\eg false s.fl t.fl=(eg false s.fl (t.fl.drop y.1)).map (y.2.1++ ·)/\y.2.1.length<=y.1/\y.2.2=bA eB y.2.1) (λy=>E-y.1) (0,[],.list []) ⟨bB _,yS,cg _,rfl⟩ [0,1,3] (λ(y:Nat×List Jm×D)=>⟨[(18,.int .i64 y.1),(17,.int .i64 (A.len a)),(16,.lst 57 a),(6,.row 50 2),(3,.box 1 0),(2,.box 0 0)],[.box [.int .i64 o,.str a1,.str a2,.lst 29 a3,.lst 57 a4],.box [.int .i64 m,.str b1,.str b2,.lst 29 j,.lst 57 a],.row 50 y.2.2 true]⟩) ?_;rintro⟨k,v,r⟩ ⟨hk,F,af,hr⟩;simp only at hk F af hr;cbv;constructor<;>intro h1
 ·have h5:k<t.fl.length:=lY X.a c h1;have W:=iR X.a I h5;have k0:=W.1;have kt:=W.2.1;have kb:=W.2.2;have V:=iX X.a I h5;have Q:=jX X.a h5;have hB:∀row:List D,A.gh (A.add (A.len r) (A.len (A.lit [row]))) 4294967296:=λrow=>by rw[X.a,hr];simp only[SD];omega
  rw[bF h5]at F;clear h1;cbv;refine⟨V,?_⟩;refine X.call (Pu H aj k0 λg0 g1 g2 g3 g4 g5 g6 b hg hb=>?_);have ab:b=false->dD s.fl t.fl[k].s=none:=λe=>by rw[hb]at e;cases hf:dD s.fl t.fl[k].s with|none=>rfl|some g=>rw[hf]at e;cases e
  have ad:b=true->∃g,dD s.fl t.fl[k].s=some g/\l9 g g0 g1 g2 g3 g4 g5 g6:=λe=>by rw[hb]at e;cases hf:dD s.fl t.fl[k].s with|none=>rw[hf]at e;cases e|some g=>rw[hf]at hg;exact⟨g,rfl,hg⟩
  clear hb hg;cases b with
  |false=>
   have z:A.not false=true:=by rw[Y];rfl
   have q:=p (by rw[F,ov (ab rfl)];rfl);cbv;repeat' (first|apply bq|exact zf|(intro J;first|exact yB z J|cbv)|apply bE)
   all_goals exact q
  |true=>
   have z:A.not true=false:=by rw[Y];rfl
   obtain⟨g,hf,T⟩:=ad rfl;have q1:A.app r (A.lit [[.int (A.asInt (A.cell a (bk k) 1)),.str (A.bH (A.cell a (bk k) 2)),.str (A.bH (A.cell a (bk k) 3)),A.cell a (bk k) 4,A.cell a (bk k) 5,.int g1,.str g2,.str g3,g4,g5]])=bA eB (v++[(t.fl[k].t,g.t)]):=by rw[j5 kt T.2.1,X.a,hr];exact cB (k:=[(t.fl[k].t,g.t)])
   cases n:(t.fl[k].b&& !g.b)with
   |true=>
    have q:=p (by rw[F,kO hf n];rfl);rw[bw]at n;have G:A.asBool (A.cell a (bk k) 6)=true:=by rw[kb];exact n.1
    have z2:A.not g6=true:=by rw[Y,T.2.2];exact n.2
    cbv;repeat' (first|apply bq|exact zf|(intro J;first|exact yB z J|exact yB G J|exact yB z2 J|cbv)|apply bE)
    all_goals exact q
   |false=>
    have z3:A.asBool (A.cell a (bk k) 6)=true->A.not g6=true->False:=λx y=>by rw[kb]at x;rw[Y,T.2.2]at y;rw[x,y]at n;cases n
    rw[ow hf n]at F;simp only[cv,if_false,if_true]at F;rw[oB]at F;clear ad ab;cbv;repeat' (first|apply bq|exact zf|(intro J;first|exact yB z J|cbv)|apply bE)
    all_goals try exact absurd yA (z3 yA)
    all_goals try exact(z3 yA yA).elim
    all_goals try first|exact Q|exact hB _
    all_goals (
     refine⟨(k+1,v++[(t.fl[k].t,g.t)],_),⟨?_,F,?_,q1⟩,?_,[0,1,2],rfl,?_⟩
     ·simp only;omega
     ·simp only[bt,bM,bX];omega
     ·simp only;omega
     exact yc)
 have h5:k=E:=gY X.a c h1;rw[h5,R,cd,eg,cr,cA]at F;have af:v.length<=4294967295:=yO;clear h1 hk h5;cbv;refine lP X (λk=>k<=B/\(s.fl.take k).all (λf=>(dD t.fl f.s).isSome||f.b)=true) (λk=>B-k) 0 ⟨bB _,rfl⟩ [0,1,2] (λ(k:Nat)=>⟨[(53,.int .i64 k),(52,.int .i64 (A.len a4)),(51,.lst 57 a4),(6,.row 50 2),(3,.box 1 0),(2,.box 0 0)],[.box [.int .i64 o,.str a1,.str a2,.lst 29 a3,.lst 57 a4],.box [.int .i64 m,.str b1,.str b2,.lst 29 j,.lst 57 a],.row 50 r true]⟩) ?_;rintro k ⟨hk,U⟩;cbv;constructor<;>intro h1
 ·have h5:k<s.fl.length:=lY X.a h h1;have W:=iR X.a H h5;have k0:=W.1;have kb:=W.2.2;have V:=iX X.a H h5;have Q:=jX X.a h5;have P:((dD t.fl s.fl[k].s).isSome||s.fl[k].b)=false->K (.tup [.row 50 0,.bool false]) [.row 50 (.list []) true]:=λe=>w (by unfold JR;rw[HJ h5 e];rfl);have ak:((dD t.fl s.fl[k].s).isSome||s.fl[k].b)=true->(s.fl.take (k+1)).all (λf=>(dD t.fl f.s).isSome||f.b)=true:=λe=>mW h5 U e;clear h1;cbv;repeat' (first|apply bq|exact zf|(intro J;cbv)|apply bE|(refine X.call (Pu I al k0 λg0 g1 g2 g3 g4 g5 g6 b hg hb=>?_);cbv))
  all_goals try first|exact V|exact Q
  all_goals first
   |(have z:A.not b=true:=yA
     have G:A.not (A.asBool (A.cell a4 (bk k) 6))=true:=yA;rw[Y,hb]at z;rw[Y,kb]at G;exact P (by simp at z G;simp[z,G]))
   |(have e:((dD t.fl s.fl[k].s).isSome||s.fl[k].b)=true:=by
      first
       |(have z:A.not b=false:=yA
         rw[Y,hb]at z;have z:(dD t.fl s.fl[k].s).isSome=true:=yU z;rw[z];rfl)
       |(have G:A.not (A.asBool (A.cell a4 (bk k) 6))=false:=yA
         rw[Y,kb]at G;have G:s.fl[k].b=true:=yU G;rw[G,wX])
     exact⟨k+1,⟨yO,ak e⟩,yO,[0,1,2],rfl,yc⟩)
   |skip
 have h5:k=B:=gY X.a h h1;rw[h5,O,bD]at U;have hF:JR s t=some (v++[(rI s.ar,rI t.ar)]):=by unfold JR DG;rw[U,if_pos rfl,F];rfl
 have hB:∀row:List D,A.gh (A.add (A.len r) (A.len (A.lit [row]))) 4294967296:=λrow=>by rw[X.a,hr];simp only[SD];omega
 have ac:A.app r (A.lit [[.int (A.asInt (A.cell a3 0 0)),.str (A.bH (A.cell a3 0 1)),.str (A.bH (A.cell a3 0 2)),A.cell a3 0 3,A.cell a3 0 4,.int (A.asInt (A.cell j 0 0)),.str (A.bH (A.cell j 0 1)),.str (A.bH (A.cell j 0 2)),A.cell j 0 3,A.cell j 0 4]])=bA eB (v++[(rI s.ar,rI t.ar)]):=by rw[qB has,qB N];refine iu (congrArg (λz=>A.app r (A.lit [z])) hj) ?_;rw[X.a,hr];exact cB (k:=[(s.ar[0],t.ar[0])])
 have q:=u _ _ hF ac;clear h1 hk h5 p w M u;cbv;repeat' (first|apply bq|exact zf|(intro J;cbv)|apply bE)
 all_goals first|exact i1|exact i2|exact hB _|exact q|trace_state
end
end Go.VC.cG
namespace Go.VC
abbrev JQ(de dc c d:D)(wr:Bool)(r:D):List Ob:=[.box [.lst 97 de,.lst 73 dc,.row 9 4,.mp 2],.dead,.map .str 4 d,.row 50 r true,.row 9 c wr]
def vK{t:Ty}(h:eA t=true)(hk:t.k=2\/t.k=3\/t.k=4):t= .mk t.k [] [] [] []:=by
 unfold eA at h;split at h
 ·cases h
 ·rw[if_pos yO]at h;cases t with|mk k m n ar fl=>
  simp[Ty.m,Ty.n,Ty.ar,Ty.fl,Ty.k]at h ⊢;exact⟨h.1.1.1,h.1.1.2,h.1.2,h.2⟩
def vJ{t:Ty}(h:eA t=true)(hk:t.k=9):t= .mk 9 [] t.n [] []:=by
 unfold eA at h;split at h
 ·cases h
 ·simp only[hk]at h;simp only[show ¬((9:Int)=0\/(9:Int)=1\/(9:Int)=2\/(9:Int)=3\/(9:Int)=4)by decide,show ¬((9:Int)=5)by decide,show ¬((9:Int)=6\/(9:Int)=7)by decide,show ¬((9:Int)=8)by decide,if_false,if_true]at h;cases t with|mk k m n ar fl=>
  simp[Ty.m,Ty.n,Ty.ar,Ty.fl,Ty.k]at h hk ⊢;exact⟨hk,h.1.1,h.1.2,h.2⟩
def KF{s t:Ty}(hs:eA s=true)(i:eA t=true):(s.k==1||t.k==0||((s.k==2||s.k==3||s.k==4||s.k==9)&&same s t))=(s.k==1||t.k==0||(s.k==t.k&&(s.k==2||s.k==3||s.k==4))||(s.k==9&&t.k==9&&s.n==t.n)):=by
 by_cases h:s.k=2\/s.k=3\/s.k=4
 ·have e:same s t=(s.k==t.k):=by rw[cM,fX,beq_iff_eq];refine⟨λe=>by rw[e],λe=>?_⟩;rw[vK hs h,vK i (by rw[<- e];exact h),e]
  have b:¬s.k=9:=yO;rw[e];rcases h with h|h|h<;>simp[h,vD]
 ·by_cases b:s.k=9
  ·have e:same s t=(t.k==9&&s.n==t.n):=by rw[cM,fX,bw,beq_iff_eq,beq_iff_eq];refine⟨λe=>by rw[<- e];exact⟨b,rfl⟩,λ⟨e1,e2⟩=>?_⟩;rw[vJ hs b,vJ i e1,e2]
   rw[e,b];simp
  ·have:(s.k==2)=false/\(s.k==3)=false/\(s.k==4)=false/\(s.k==9)=false:=yQ;rw[this.1,this.2.1,this.2.2.1,this.2.2.2];simp
end Go.VC
namespace Go.VC.cG
open Go Go.VC Go.Proofs
section
variable {de dc c d a3 a4 g j:D}{wr:Bool}{s t:Ty}{a f:Int}{a1 a2 b1 b2:S}{K:PV->List Ob->Prop}
def W1:ea:={tt:=tt,n:=49,n0:=3,own:=[4]}
def F66(q:Ty.le 4294967295 s)(o:eA s=true)(i:eA t=true)(hs:cD s a a1 a2 a3 a4)(p:cD t f b1 b2 g j)
 (h:∀r b,me (xR s t) r b->K (.tup [.row 50 3,.bool b]) (JQ de dc c d wr r)):
 FT 66 (qP de dc c d wr) [.box 0 0,lH a a1 a2 a3 a4 f b1 b2 g j] K:=by
 obtain⟨w,F,E,l,u⟩:=id hs;obtain⟨y,B,z,m,k⟩:=id p;refine el W1 Tryz.func66 λA C L X=>?_;have Y:=fz X.a;have Z:=qH X.a;have v:∀n,A.eq a n=(s.k==n):=λn=>by rw[Z,w]
 have x:∀n,A.eq f n=(t.k==n):=λn=>by rw[Z,y]
 have key:∀b,b=(s.k==1||t.k==0||((s.k==2||s.k==3||s.k==4||s.k==9)&&same s t))->K (.tup [.row 50 3,.bool b]) (JQ de dc c d wr (.list [])):=λb e=>h _ _ (me.p1 rfl (e.trans (KF o i)));clear h;cbv;repeat' (first|apply bq|exact zf|(intro J;cbv)|apply bE|(refine X.call (Z3 s q hs p λb hb=>?_);cbv))
 all_goals (refine key _ ?_;clear key X Y Z l u m k hs p;simp only[dL,v,x]at *;clear v x w F E y B z;simp_all;done)
def W0:ea:={tt:=tt,n:=57,n0:=3,iT:=g67.iT,own:=[4,29]}
def F67(B:Ty.le 4294967295 s)(c8:Ty.le 4294967295 t)(y:s.rR)(x:t.rR)(hs:cD s a a1 a2 a3 a4)(I:cD t f b1 b2 g j)
 (h:∀r b,me (jZ s t) r b->K (.tup [.row 50 3,.bool b]) (JQ de dc c d wr r)):
 FT 67 (qP de dc c d wr) [.box 0 0,lH a a1 a2 a3 a4 f b1 b2 g j] K:=by
 obtain⟨G,W,U,F,O⟩:=id hs;obtain⟨P,V,T,H,Q⟩:=id I;have m:jZ s t=none->K (.tup [.row 50 3,.bool false]) (JQ de dc c d wr (.list [])):=λe=>h _ _ (me.no e);have k:∀l r,jZ s t=some l->r=bA eB l->K (.tup [.row 50 3,.bool true]) (JQ de dc c d wr r):=λl r e v=>h _ _ (me.yes e v);clear h;refine el W0 Tryz.func67 λA C L X=>?_;have Y:=fz X.a;have Z:=qH X.a;have o:A.not (A.eq a f)= !(s.k==t.k):=by rw[Y,Z,G,P]
 have p:A.eq a 5=(s.k==5):=by rw[Z,G]
 have u:A.eq a 6=(s.k==6):=by rw[Z,G]
 have w:A.eq a 7=(s.k==7):=by rw[Z,G]
 have E:A.eq a 8=(s.k==8):=by rw[Z,G]
 cbv;by_cases hk:s.k=t.k
 ·have o:A.not (A.eq a f)=false:=by rw[o];simpa using hk
  by_cases h5:s.k=5
  ·have has:0<s.ar.length:=by rw[y.a (.inl h5)];decide
   have n:0<t.ar.length:=by rw[x.a (.inl (by rw[<- hk];exact h5))];decide
   have p:A.eq a 5=true:=by rw[p];simpa using h5
   have R:A.idx 0 (A.len a3):=by rw[X.a,F];exact cY (i:=0) has
   have M:A.idx 0 (A.len g):=by rw[X.a,H];exact cY (i:=0) n
   have N:=j5 (gT X.a F has) (gT X.a H n);have q:=k _ _ (Hz hk h5) (show A.lit [_]=_ by rw[qB has,qB n];refine iu (congrArg (λz=>A.lit [z]) N) ?_;rw[X.a];rfl);repeat' (first|apply bq|exact zf|(intro J;first|exact yB o J|exact yB p J|cbv)|apply bE)
   all_goals first|exact R|exact M|exact q
  have p:A.eq a 5=false:=by rw[p];simpa using h5
  by_cases h6:s.k=6
  ·have u:A.eq a 6=true:=by rw[u];simpa using h6
   rw[Hy hk h6]at m k;repeat' (first|apply bq|exact zf|(intro J;first|exact yB o J|exact yB p J|exact yB u J|cbv)|apply bE|(refine X.call (Zw B c8 (x.r (.inl (by rw[<- hk];exact h6))).2 hs I (λe=>?_) (λl r e v=>?_));cbv))
   ·exact m e
   ·exact k _ _ e v
  have u:A.eq a 6=false:=by rw[u];simpa using h6
  by_cases h7:s.k=7
  ·have w:A.eq a 7=true:=by rw[w];simpa using h7
   rw[Hx hk h7]at m k;repeat' (first|apply bq|exact zf|(intro J;first|exact yB o J|exact yB p J|exact yB u J|exact yB w J|cbv)|apply bE|(refine X.call (Zv B c8 (y.r (.inr h7)).2 hs I (λe=>?_) (λl r e v=>?_));cbv))
   ·exact m e
   ·exact k _ _ e v
  have w:A.eq a 7=false:=by rw[w];simpa using h7
  by_cases h8:s.k=8
  ·have has:0<s.ar.length:=by rw[y.a (.inr h8)];decide
   have n:0<t.ar.length:=by rw[x.a (.inr (by rw[<- hk];exact h8))];decide
   have E:A.eq a 8=true:=by rw[E];simpa using h8
   rw[Hw hk h8]at m k;repeat' (first|apply bq|exact zf|(intro J;first|exact yB o J|exact yB p J|exact yB u J|exact yB w J|exact yB E J|cbv)|apply bE|(refine X.call (Zu B c8 has n hs I (λe=>?_) (λl r e v=>?_));cbv))
   ·exact m e
   ·exact k _ _ e v
  have E:A.eq a 8=false:=by rw[E];simpa using h8
  repeat' (first|apply bq|exact zf|(intro J;first|exact yB o J|exact yB p J|exact yB u J|exact yB w J|exact yB E J|cbv)|apply bE)
  all_goals exact m (Hu h5 h6 h7 h8)
 ·have o:A.not (A.eq a f)=true:=by rw[o];simpa using hk
  repeat' (first|apply bq|exact zf|(intro J;first|exact yB o J|cbv)|apply bE)
  all_goals exact m (Hv hk)
end
end Go.VC.cG
namespace Go.VC
def Ce{env:List IF}:∀{k:Nat}{m n m' n':S},(∀x,gg env k m n= .uF m' n' x->iV env m' n'= .uF x)/\(∀x,gg env k m n= .val m' n' x->iV env m' n'= .val x)
 |0,m,n,m',n'=>⟨λx h=>by simp[gg]at h,λx h=>by simp[gg]at h⟩
 |k+1,m,n,m',n'=>by
  have a:= @Ce env k;refine⟨λx h=>?_,λx h=>?_⟩<;>rw[gg]at h<;>split at h
  all_goals first
   |(cases h;assumption)
   |(cases h;done)
   |exact a.1 x h
   |exact a.2 x h
def Iu{env:List IF}{m n:S}(h:(ff env m n).2.2=0):di env (ff env m n).1 (ff env m n).2.1=di env m n:=by
 have key:∀m' n' L,iV env m' n'=L->gg env 65 m' n'=gg env 65 m' n':=λ_ _ _ _=>rfl;unfold ff lJ at h ⊢;unfold di;cases he:gg env 65 m n with
 |nf=>rw[he]at h;cases h
 |loop=>rw[he]at h;cases h
 |uF m' n' x=>have:=Ce.1 x he;simp only;rw[gg,this]
 |val m' n' x=>have:=Ce.2 x he;simp only;rw[gg,this]
end Go.VC
namespace Go.VC.cG
open Go Go.VC Go.Proofs
def T9:ea:={tt:=tt,n:=108,n0:=3,iT:=Xx.iT}
def Ze{env:List IF}{de:D}(he:de=bA dC env)(ek:eH env){dc R dm:D}{wr:Bool}{s t:Ty}{E:Int}{a1 a2:S}{a3 a4:D}{x:Int}{b1 b2:S}{w b4:D}(hs:cD s E a1 a2 a3 a4)(ht:cD t x b1 b2 w b4)
 {K:PV->List Ob->Prop} (g:kL env s t=none->K (.tup [.lst 73 (.list []),.bool false]) (PX de dc R dm wr))
 (hy:∀ps d,kL env s t=some (mV ps s.ar t.ar)->s.ar.length=ps.length->t.ar.length=ps.length->d=bA eU ps->K (.tup [.lst 73 d,.bool true]) (PX de dc R dm wr)):
 FT 180 (qP de dc R dm wr) [.box 0 0,lH E a1 a2 a3 a4 x b1 b2 w b4] K:=by
 obtain⟨s0,s1,s2,Q,an⟩:=id hs;obtain⟨t0,t1,t2,aa,ao⟩:=id ht;refine el T9 Tryz.func180 λA C L X=>?_;have Y:=fz X.a;have Z:=qH X.a;have i:=Nw X.a;by_cases hk:s.k≠10\/t.k≠10
 ·have q:=g (by unfold kL;rw[if_pos hk])
  have y:A.not (A.eq E 10)=true\/A.not (A.eq x 10)=true:=by
   rcases hk with hk|hk
   ·exact .inl (by rw[Y,Z,s0];simpa using hk)
   ·exact .inr (by rw[Y,Z,t0];simpa using hk)
  clear g hy;cbv;repeat' (first|apply bq|exact zf|(intro J;first|(exfalso;rcases y with y|y<;>first|exact absurd (y.symm.trans (show A.not (A.eq E 10)=false by assumption)) yD|exact absurd (y.symm.trans (show A.not (A.eq x 10)=false by assumption)) yD)|cbv)|apply bE|exact q)
 have T:s.k=10:=by
  rcases pF (s.k=10)with e|e
  ·exact e
  ·exact absurd (.inl e) hk
 have V:t.k=10:=by
  rcases pF (t.k=10)with e|e
  ·exact e
  ·exact absurd (.inr e) hk
 have es:A.not (A.eq E 10)=false:=by rw[Y,Z,s0,T];rfl
 have et:A.not (A.eq x 10)=false:=by rw[Y,Z,t0,V];rfl
 cbv;repeat' (first|apply bq|exact zf|(intro J;first|exact yB es J|exact yB et J|cbv)|apply bE|(refine X.call (Vq (n:=a2) he ek λr0 o r2 hr=>?_);cbv))
 refine X.call (Vq (n:=b2) he ek λF M P hq=>?_);cbv;repeat' (first|apply bq|exact zf|(intro J;cbv)|apply bE|(refine X.call (SP (m:=r0) (n:=o) he ek λw0 j w2 w3 w4 w5 w6 w7 w8 w9 ar ak x1 O hx U v=>?_);cbv))
 all_goals (
  have c:(r0,o,r2)=ff env s.m s.n:=by rw[<- s1,<-s2];unfold ff;exact hr
  have B:(F,M,P)=ff env t.m t.n:=by rw[<- t1,<-t2];unfold ff;exact hq
  have hT:r2=0->di env r0 o=di env s.m s.n:=λe=>by have:=Iu (env:=env) (m:=s.m) (n:=s.n) (by rw[<- c];exact e);rw[<- c]at this;exact this
  obtain⟨ps,l⟩:∃ps,ps=(di env s.m s.n).1.params:=⟨_,rfl⟩;obtain⟨W,k⟩:∃W,W=(di env s.m s.n).2.2:=⟨_,rfl⟩;have h:=Du hk c B k l;have b:r2=0->O=W:=λe=>by rw[v,hT e,k]
  have f:r2=0->j=bA eU ps:=λe=>by rw[l,<-hT e];exact hx.2.1
  have ls:A.len a3=bk s.ar.length:=iW X.a Q;have lt:A.len w=bk t.ar.length:=iW X.a aa;have r:r2=0->A.len j=bk ps.length:=λe=>iW X.a (f e);clear hr hq hx U v c B hT l k)
 all_goals first
  |(have a:A.not (A.eq r2 0)=true:=yA
    rw[Y,Z]at a;exact g (by rw[h,if_pos (.inl (yU a))]))
  |(have a:A.not (A.eq r2 0)=false:=yA
    rw[Y,Z]at a;have a:r2=0:=yU a;have r:=r a;have b:=b a;have f:=f a
    first
     |(have z:A.not (A.eq P 0)=true:=yA
       rw[Y,Z]at z;exact g (by rw[h,if_pos (.inr (.inl (yU z)))]))
     |(have z:A.not (A.eq O 0)=true:=yA
       rw[Y,Z]at z;exact g (by rw[h,if_pos (.inr (.inr (.inl (by rw[<- b];simpa using z))))]))
     |(have z:A.not (A.seq r0 F)=true:=yA
       rw[Y,i]at z;exact g (by rw[h,if_pos (.inr (.inr (.inr (.inl (yU z)))))]))
     |(have z:A.not (A.seq o M)=true:=yA
       rw[Y,i]at z;exact g (by rw[h,if_pos (.inr (.inr (.inr (.inr (.inl (yU z))))))]))
     |(have z:A.not (A.eq (A.len a3) (A.len j))=true:=yA
       rw[Y,Z,ls,r]at z;exact g (by rw[h,if_pos (.inr (.inr (.inr (.inr (.inr (.inl (by intro e;rw[e]at z;simp at z)))))))]))
     |(have z:A.not (A.eq (A.len w) (A.len j))=true:=yA
       rw[Y,Z,lt,r]at z;exact g (by rw[h,if_pos (.inr (.inr (.inr (.inr (.inr (.inr (by intro e;rw[e]at z;simp at z)))))))]))
     |(have H:A.not (A.eq P 0)=false:=yA
       have N:A.not (A.eq O 0)=false:=yA;have I:A.not (A.seq r0 F)=false:=yA;have G:A.not (A.seq o M)=false:=yA;have u:A.not (A.eq (A.len a3) (A.len j))=false:=yA;have p:A.not (A.eq (A.len w) (A.len j))=false:=yA;rw[Y,Z]at H N;rw[Y,i]at I G;rw[Y,Z,ls,r]at u;rw[Y,Z,lt,r]at p;have H:P=0:=yU H;have N:O=0:=yU N;have I:r0=F:=yU I;have G:o=M:=yU G;have u:s.ar.length=ps.length:=by simp at u;exact GU.1 u
       have p:t.ar.length=ps.length:=by simp at p;exact GU.1 p
       refine hy ps j ?_ u p f;rw[h,if_neg];rintro(e|e|e|e|e|e|e)
       ·exact e a
       ·exact e H
       ·exact e (b▸N)
       ·exact e I
       ·exact e G
       ·exact e u
       ·exact e p))
  |trace_state
end Go.VC.cG
namespace Go.VC
abbrev Ar:=Jm×S×Bool
def pK(x:Ar):List D:=eB x.1++[.str x.2.1,.bool x.2.2]
def Fh(n:S)(v:Int)(x y:Ty):List Ar:=(if v≠1 then [((x,y),n,false)]else [])++(if v≠0 then [((y,x),n,true)]else [])
def zn:List Pm->List Ty->List Ty->List Ar
 |p::ps,x::xs,y::ys=>Fh p.name p.var x y++zn ps xs ys
 |_,_,_=>[]
def EB:∀(ps:List Pm)(xs ys:List Ty),(zn ps xs ys).map (·.1)=mV ps xs ys
 |[],xs,ys=>rfl
 |p::ps,[],ys=>rfl
 |p::ps,x::xs,[]=>rfl
 |p::ps,x::xs,y::ys=>by
  rw[zn,mV,cj,EB ps xs ys,Fh]
  congr 1
  split<;>split<;>rfl
def O5{ps:List Pm}{xs ys:List Ty}{k:Nat}(h1:k<ps.length)(J:k<xs.length)(h3:k<ys.length):zn (ps.drop k) (xs.drop k) (ys.drop k)=Fh ps[k].name ps[k].var xs[k] ys[k]++zn (ps.drop (k+1)) (xs.drop (k+1)) (ys.drop (k+1)):=by rw[bF h1,bF J,bF h3,zn]
abbrev WA(e:Nat)(de dc c f:D)(wr:Bool)(r:D):List Ob:=[.box [.lst 97 de,.lst 73 dc,.row 9 4,.mp 2],.dead,.map .str 4 f,.row e r true,.row 9 c wr]
end Go.VC
namespace Go.VC.cG
open Go Go.VC Go.Proofs
section
variable {env:List IF}{de dc c f a3 a4 a i:D}{wr:Bool}{s t:Ty}{j g:Int}{a1 a2 b1 b2:S}{K:PV->List Ob->Prop}
def VO(he:de=bA dC env)(ek:eH env)(hs:cD s j a1 a2 a3 a4)(l:cD t g b1 b2 a i)
 (h:∀b ps d,(b=false->kL env s t=none/\ps=[])->(b=true->kL env s t=some (mV ps s.ar t.ar))->ps.length<=s.ar.length->ps.length<=t.ar.length->d=bA eU ps->K (.tup [.lst 73 d,.bool b]) (PX de dc c f wr)):
 FT 180 (qP de dc c f wr) [.box 0 0,lH j a1 a2 a3 a4 g b1 b2 a i] K:=
 Ze he ek hs l (λe=>h false [] _ (λ_=>⟨e,rfl⟩) (λe=>yC e) (bB _) (bB _) rfl) λps d e h1 J k=>h true ps d (λe=>yC e) (λ_=>e) yO yO k
def Um:ea:={tt:=tt,n:=71,n0:=3,iT:=XQ.iT,own:=[8],live:=[180]}
def ZA(he:de=bA dC env)(ek:eH env)(fh:s.ar.length<=1048576)(hs:cD s j a1 a2 a3 a4)(ht:cD t g b1 b2 a i)
 (U:kL env s t=none->K (.tup [.row 184 3,.bool false]) (WA 184 de dc c f wr (.list [])))
 (T:∀l r,kL env s t=some (l.map (·.1))->l.length<=2097152->r=bA pK l->K (.tup [.row 184 3,.bool true]) (WA 184 de dc c f wr r)):
 FT 121 (qP de dc c f wr) [.box 0 0,lH j a1 a2 a3 a4 g b1 b2 a i] K:=by
 obtain⟨s0,s1,s2,E,ag⟩:=id hs;obtain⟨t0,t1,t2,H,ah⟩:=id ht;refine el Um Tryz.func121 λA C L X=>?_;have Y:=fz X.a;have Z:=qH X.a;cbv;refine X.call (VO he ek hs ht λb ps d hf w aj ai O=>?_);rw[<- EB]at w;have U:=λe=>U (hf e).1;have T:=λe r=>T _ r (w e);have hf:=λe=>(hf e).2;clear w;obtain⟨v,u,m⟩:=lenOf O;cbv;refine lP X (λy=>y.1<=v/\zn ps s.ar t.ar=y.2.1++zn (ps.drop y.1) (s.ar.drop y.1) (t.ar.drop y.1)/\y.2.1.length<=2*y.1/\y.2.2=bA pK y.2.1) (λy=>v-y.1) (0,[],.list []) ⟨bB _,rfl,cg _,rfl⟩ [0,1,2,6,5,4] (λ(y:Nat×List Ar×D)=>⟨[(19,.int .i64 y.1),(18,.int .i64 (A.len d)),(17,.lst 73 d),(8,.row 184 3),(7,.bool b),(3,.box 5 0)],[.box [.lst 97 de,.lst 73 dc,.row 9 4,.mp 2],.dead,.map .str 4 f,.row 184 y.2.2 true,.row 9 c wr,.box [.int .i64 j,.str a1,.str a2,.lst 29 a3,.lst 57 a4,.int .i64 g,.str b1,.str b2,.lst 29 a,.lst 57 i]]⟩) ?_;rintro⟨k,p,r⟩ ⟨P,B,aa,hr⟩;simp only at P B aa hr;cbv;constructor<;>intro h1
 ·have h5:k<ps.length:=lY X.a m h1;have h6:k<s.ar.length:=yO;have h7:k<t.ar.length:=yO;have I:=Dv X.a O h5;have y1:=gT X.a E h6;have y2:=gT X.a H h7;have ab:=iX X.a O h5;have Q:=iX X.a E h6;have W:=iX X.a H h7;have R:=jX X.a h5;have M:A.not (A.eq (A.asInt (A.cell d (bk k) 1)) 1)=decide (ps[k].var≠1):=by rw[Y,Z,I.2,cM];simp
  have N:A.not (A.eq (A.asInt (A.cell d (bk k) 1)) 0)=decide (ps[k].var≠0):=by rw[Y,Z,I.2,cM];simp
  have hB:∀row:List D,A.gh (A.add (A.len r) (A.len (A.lit [row]))) 4294967296:=λrow=>by rw[X.a,hr];simp only[SD];omega
  have p1:∀(d':D)(l:List Ar),d'=bA pK l->A.app d' (A.lit [[.int (A.asInt (A.cell a3 (bk k) 0)),.str (A.bH (A.cell a3 (bk k) 1)),.str (A.bH (A.cell a3 (bk k) 2)),A.cell a3 (bk k) 3,A.cell a3 (bk k) 4,.int (A.asInt (A.cell a (bk k) 0)),.str (A.bH (A.cell a (bk k) 1)),.str (A.bH (A.cell a (bk k) 2)),A.cell a (bk k) 3,A.cell a (bk k) 4,.str (A.bH (A.cell d (bk k) 0)),.bool false]])=bA pK (l++[((s.ar[k],t.ar[k]),ps[k].name,false)]):=λd' l e=>by have q:=j5 y1 y2;rw[I.1,X.a,e];rw[X.a]at q;refine iu (congrArg (λz=>Std.app _ (Std.lit [z++[.str ps[k].name,.bool false]])) q) ?_;exact cB (k:=[((s.ar[k],t.ar[k]),ps[k].name,false)])
  have p2:∀(d':D)(l:List Ar),d'=bA pK l->A.app d' (A.lit [[.int (A.asInt (A.cell a (bk k) 0)),.str (A.bH (A.cell a (bk k) 1)),.str (A.bH (A.cell a (bk k) 2)),A.cell a (bk k) 3,A.cell a (bk k) 4,.int (A.asInt (A.cell a3 (bk k) 0)),.str (A.bH (A.cell a3 (bk k) 1)),.str (A.bH (A.cell a3 (bk k) 2)),A.cell a3 (bk k) 3,A.cell a3 (bk k) 4,.str (A.bH (A.cell d (bk k) 0)),.bool true]])=bA pK (l++[((t.ar[k],s.ar[k]),ps[k].name,true)]):=λd' l e=>by have q:=j5 y2 y1;rw[I.1,X.a,e];rw[X.a]at q;refine iu (congrArg (λz=>Std.app _ (Std.lit [z++[.str ps[k].name,.bool true]])) q) ?_;exact cB (k:=[((t.ar[k],s.ar[k]),ps[k].name,true)])
  have F:∀(x:Ar)(d':D)(row:List D),d'=bA pK (p++[x])->A.gh (A.add (A.len d') (A.len (A.lit [row]))) 4294967296:=λx d' row e=>by rw[X.a,e];simp only[SD,bt,bM,bX];omega
  have ac:=F _ _ [.int (A.asInt (A.cell a (bk k) 0)),.str (A.bH (A.cell a (bk k) 1)),.str (A.bH (A.cell a (bk k) 2)),A.cell a (bk k) 3,A.cell a (bk k) 4,.int (A.asInt (A.cell a3 (bk k) 0)),.str (A.bH (A.cell a3 (bk k) 1)),.str (A.bH (A.cell a3 (bk k) 2)),A.cell a3 (bk k) 3,A.cell a3 (bk k) 4,.str (A.bH (A.cell d (bk k) 0)),.bool true] (p1 r p hr);rw[O5 h5 h6 h7,<-bI]at B
  have h:∀r',r'=bA pK (p++Fh ps[k].name ps[k].var s.ar[k] t.ar[k])->(λy:Nat×List Ar×D=>y.1<=v/\zn ps s.ar t.ar=y.2.1++zn (ps.drop y.1) (s.ar.drop y.1) (t.ar.drop y.1)/\y.2.1.length<=2*y.1/\y.2.2=bA pK y.2.1) (k+1,p++Fh ps[k].name ps[k].var s.ar[k] t.ar[k],r'):=λr' e=>by
   refine⟨yP,B,?_,e⟩;have:(Fh ps[k].name ps[k].var s.ar[k] t.ar[k]).length<=2:=by unfold Fh;split<;>split<;>simp
   simp only[bt];omega
  clear h1 F;cbv;repeat' (first|apply bq|exact zf|(intro J;cbv)|apply bE)
  all_goals try first|exact ab|exact Q|exact W|exact R|exact hB _|exact ac
  all_goals first
   |(have o:A.not (A.eq (A.asInt (A.cell d (bk k) 1)) 1)=true:=yA
     have n:A.not (A.eq (A.asInt (A.cell d (bk k) 1)) 0)=true:=yA;rw[M]at o;rw[N]at n;have ev:Fh ps[k].name ps[k].var s.ar[k] t.ar[k]=[((s.ar[k],t.ar[k]),ps[k].name,false)]++[((t.ar[k],s.ar[k]),ps[k].name,true)]:=by unfold Fh;rw[if_pos (of_decide_eq_true o),if_pos (of_decide_eq_true n)]
     have q:=p2 _ _ (p1 _ _ hr);rw[bI,<-ev]at q;exact⟨_,h _ q,yP,[0,1,2,3,4,5],rfl,yc⟩)
   |(have o:A.not (A.eq (A.asInt (A.cell d (bk k) 1)) 1)=true:=yA
     have n:A.not (A.eq (A.asInt (A.cell d (bk k) 1)) 0)=false:=yA;rw[M]at o;rw[N]at n;have ev:Fh ps[k].name ps[k].var s.ar[k] t.ar[k]=[((s.ar[k],t.ar[k]),ps[k].name,false)]:=by unfold Fh;rw[if_pos (of_decide_eq_true o),if_neg (of_decide_eq_false n)];rfl
     have q:=p1 _ _ hr;rw[<- ev]at q;exact⟨_,h _ q,yP,[0,1,2,3,4,5],rfl,yc⟩)
   |(have o:A.not (A.eq (A.asInt (A.cell d (bk k) 1)) 1)=false:=yA
     have n:A.not (A.eq (A.asInt (A.cell d (bk k) 1)) 0)=true:=yA;rw[M]at o;rw[N]at n;have ev:Fh ps[k].name ps[k].var s.ar[k] t.ar[k]=[((t.ar[k],s.ar[k]),ps[k].name,true)]:=by unfold Fh;rw[if_neg (of_decide_eq_false o),if_pos (of_decide_eq_true n)];rfl
     have q:=p2 _ _ hr;rw[<- ev]at q;exact⟨_,h _ q,yP,[0,1,2,3,4,5],rfl,yc⟩)
   |(have o:A.not (A.eq (A.asInt (A.cell d (bk k) 1)) 1)=false:=yA
     have n:A.not (A.eq (A.asInt (A.cell d (bk k) 1)) 0)=false:=yA;rw[M]at o;rw[N]at n;have ev:Fh ps[k].name ps[k].var s.ar[k] t.ar[k]=[]:=by unfold Fh;rw[if_neg (of_decide_eq_false o),if_neg (of_decide_eq_false n)];rfl
     exact⟨_,h r (by rw[ev,cA];exact hr),yP,[0,1,2,3,4,5],rfl,yc⟩)
   |trace_state
 ·have h5:k=v:=gY X.a m h1;cases b with
  |false=>have e:=hf rfl;rw[e]at u;have G:p=[]:=bY (by simp at u;omega);have q:=U rfl;rw[G]at hr;have hr:r= .list []:=hr;subst hr;cbv;exact q
  |true=>
   have V:zn (ps.drop k) (s.ar.drop k) (t.ar.drop k)=[]:=by rw[h5,u,cd];cases s.ar.drop ps.length<;>rfl
   rw[V,cA]at B;have q:=T rfl r (by rw[B];omega) (by rw[B];exact hr);cbv;exact q
end
end Go.VC.cG
namespace Go.VC
def X3{A:pM}{l:List Ar}{d:D}{i:Nat}(ha:A=Std)(b:d=bA pK l)(h:i<l.length):[D.int (A.asInt (A.cell d (bk i) 0)),.str (A.bH (A.cell d (bk i) 1)),.str (A.bH (A.cell d (bk i) 2)),A.cell d (bk i) 3,A.cell d (bk i) 4,.int (A.asInt (A.cell d (bk i) 5)),.str (A.bH (A.cell d (bk i) 6)),.str (A.bH (A.cell d (bk i) 7)),A.cell d (bk i) 8,A.cell d (bk i) 9]=eB l[i].1:=by subst ha b;have e:pK l[i]=eB l[i].1++[.str l[i].2.1,.bool l[i].2.2]:=rfl;rw[dN h,dN h,dN h,dN h,dN h,dN h,dN h,dN h,dN h,dN h,e];unfold eB;rw[dk,dk];rfl
end Go.VC
namespace Go.VC.cG
open Go Go.VC Go.Proofs
section
variable {env:List IF}{de dc a c a3 a4 f j:D}{wr:Bool}{s t:Ty}{m g:Int}{a1 a2 b1 b2:S}{K:PV->List Ob->Prop}
def V2(he:de=bA dC env)(ek:eH env)(fh:s.ar.length<=1048576)(hs:cD s m a1 a2 a3 a4)(d:cD t g b1 b2 f j)
 (h:∀b l r,(b=false->kL env s t=none)->(b=true->kL env s t=some (l.map (·.1)))->l.length<=2097152->r=bA pK l->K (.tup [.row 184 3,.bool b]) (WA 184 de dc a c wr r)):
 FT 121 (qP de dc a c wr) [.box 0 0,lH m a1 a2 a3 a4 g b1 b2 f j] K:=
 ZA he ek fh hs d (λe=>h false [] _ (λ_=>e) (λe=>yC e) (bB _) rfl) λl r e h1 hr=>h true l r (λe=>yC e) (λ_=>e) h1 hr
def WZ:ea:={tt:=tt,n:=31,n0:=3,own:=[8],live:=[121]}
def F68(he:de=bA dC env)(ek:eH env)(fh:s.ar.length<=1048576)(hs:cD s m a1 a2 a3 a4)(x:cD t g b1 b2 f j)
 (h:∀r b,me (kL env s t) r b->K (.tup [.row 50 3,.bool b]) (JQ de dc a c wr r)):
 FT 68 (qP de dc a c wr) [.box 0 0,lH m a1 a2 a3 a4 g b1 b2 f j] K:=by
 refine el WZ Tryz.func68 λA C L X=>?_;cbv;refine X.call (V2 he ek fh hs x λb l d hf n hl p=>?_)
 have h:∀r,r=bA eB (l.map (·.1))->K (.tup [.row 50 3,.bool b]) (JQ de dc a c wr r):=λr hr=>h r b (by
  cases b with
  |false=>exact me.no (hf rfl)
  |true=>exact me.yes (n rfl) hr)
 clear hf n;obtain⟨i,o,e⟩:=lenOf p;cbv;refine lP X (λy=>y.1<=i/\y.2=bA eB ((l.take y.1).map (·.1))) (λy=>i-y.1) (0,.list []) ⟨bB _,rfl⟩ [0,1,2,7,6,5] (λ(y:Nat×D)=>⟨[(19,.int .i64 y.1),(18,.int .i64 (A.len d)),(17,.row 184 5),(8,.row 50 3),(7,.bool b)],[.box [.lst 97 de,.lst 73 dc,.row 9 4,.mp 2],.dead,.map .str 4 c,.row 50 y.2 true,.row 9 a wr,.row 184 d true]⟩) ?_;rintro⟨k,r⟩ ⟨hk,hr⟩;simp only at hk hr;cbv;constructor<;>intro h1
 ·have h5:k<l.length:=lY X.a e h1;have q:=X3 X.a p h5;have w:=iX X.a p h5;have u:=jX X.a h5;have hB:∀row:List D,A.gh (A.add (A.len r) (A.len (A.lit [row]))) 4294967296:=λrow=>by rw[X.a,hr];simp only[SD,bL,cJ];omega
  have v:=congrArg (λz=>A.app r (A.lit [z])) q;have v:=v.trans (show A.app r (A.lit [eB l[k].1])=bA eB ((l.take (k+1)).map (·.1))by rw[map_take h5,X.a,hr];exact cB (k:=[l[k].1]));clear h1 q;cbv;repeat' (first|apply bq|exact zf|(intro J;cbv)|apply bE)
  all_goals try first|exact w|exact u|exact hB _
  exact⟨(k+1,_),⟨yP,v⟩,yP,[0,1,2,3,4,5],rfl,yc⟩
 ·have h5:k=i:=gY X.a e h1;rw[h5,o,bD]at hr;have q:=h r hr;cbv;exact q
end
end Go.VC.cG
