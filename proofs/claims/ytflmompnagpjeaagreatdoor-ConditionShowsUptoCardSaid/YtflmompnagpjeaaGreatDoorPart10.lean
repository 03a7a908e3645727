/- Part 10 of the common texts. -/
import Derived.Test.YtflmompnagpjeaaGreatDoorPart9
set_option linter.all false
set_option maxRecDepth 100000
set_option maxHeartbeats 16000000
open And renaming intro→bk
open Bool renaming and_eq_true→bn,eq_iff_iff→cn
open Eq renaming trans→gv
open Int renaming ofNat→bj
open List renaming getElem_map→jT,getElem_mem→br,getElem_zipWith→K4,length_append→bp,length_cons→bI,length_map→bA,length_take→cF,length_zipWith→uP,map_cons→bF,mem_append→bE,mem_map→bH,sum_cons→bV,take_length→bz
open Nat renaming le_trans→bM,zero_le→bw
open Or renaming inl→bB
namespace Go.VC
def RU{l:List S}(h:mz l):l.Nodup:=by unfold mz at h;exact h.imp λa e=>by subst e;rw[gk]at a;cases a
def M7(i:IF):(pU (iq i)).length<=(iq i).length:=fk (RU (AW _)) λs hs=>(ve _ _).1 hs
def pA(m:S):mn:=⟨0,m,[],0,[],Ty.zero,Ty.zero⟩
def FP(env:List IF)(m:S)(i:IF):List mn:=pA m::(pU (iq i)).flatMap (qb env m)
def Hr(env:List IF)(c:mn):Bool:=match fF env c.m with|none=>false|some i=>(pU (iq i)).contains c.n
def Ft(env:List IF)(c:mn):Bool:=decide ((cp env c.m c.n).2.2=0)&&Hr env c&&decide ((cp env c.m c.n).1.params.length=c.ps.length)
def qn(env:List IF)(c:mn):Bool:=decide ((dP env c.m c.n).2.2=0)&&Hr env c&&decide ((dP env c.m c.n).1.params.length=c.ps.length)
def AN(x:TE)(c:mn):Bool:=decide (0<=c.i)&&decide (c.i<c.ps.length)&&decide (((x.params.map Pm.var).getD c.i.toNat 0)=((c.ps.map Pm.var).getD c.i.toNat 0))
def JK(x:VE)(c:mn):List Jm:=(x.params.zipWith (λp q=>(iB q.name,p.bound.sub (x.params.map Pm.name) (c.ps.map λq=>iB q.name))) c.ps)++[(x.ty.sub (x.params.map Pm.name) (c.ps.map λq=>iB q.name),c.t)]
noncomputable def qd(env:List IF)(c:mn):Option (List Jm):=
 if c.k=0 then(if(fF env c.m).isSome then some []else none)
 else if c.k=1 then(if Ft env c then some []else none)
 else if c.k=2 then(if Ft env c&&AN (cp env c.m c.n).1 c then some []else none)
 else if c.k=7 then(if qn env c then some []else none)
 else if c.k=8 then(if qn env c&&kH env (fv c) c.t c.t then some (JK (dP env c.m c.n).1 c)else none)
 else if 3<=c.k/\c.k<=6 then(if kH env (fv c) c.s c.t then some [(c.s,c.t)]else none)
 else none
noncomputable def oo(env:List IF)(c:mn):Option (List Jm):=if Ci env then qd env c else none
def Ka(i:IF):(iq i).length<=i.wt:=by
 have h1:∀l:List TE,l.length<=(l.map TE.wt).sum:=λl=>by
  induction l with
  |nil=>simp
  |cons x l a=>simp only[bI,bF,bV,TE.wt]at *;omega
 have J:∀l:List VE,l.length<=(l.map VE.wt).sum:=λl=>by
  induction l with
  |nil=>simp
  |cons x l a=>simp only[bI,bF,bV,VE.wt]at *;omega
 have:=h1 i.types;have:=J i.values;unfold iq IF.wt;simp only[bp,bA];omega
def nO.nl{env:List IF}{de:D}(E:nO env de){i:IF}(h:i∈env):(iq i).length<=268435456:=bM (Ka i) (bM (ql h) E.mi)
end Go.VC
namespace Go.VC.cc
open Go Go.VC Go.Proofs
section
variable {env:List IF}{de:D}{K:PV->List Ob->Prop}
def abD(E:nO env de){c:mn}{p:Int}{c1 c2:S}{g:Int}{o:D}{l:Int}{m j:S}{k f:D}{e0:Int}{e1 e2:S}{e3 e4:D}(hc:sa c p c1 c2 g o l m j k f e0 e1 e2 e3 e4)
 (h:∀b,b=Hr env c->K (.bool b) []):FT 161 [] [.lst 97 de,xc p c1 c2 g o l m j k f e0 e1 e2 e3 e4] K:=by
 obtain⟨_,s,t,_⟩:=hc;refine en ZH Tryz.func161 λA C L X=>?_;cbv;refine X.call (WW E.he E.dJ s λg0 g1 g2 g3 g4 b n hb=>?_);cases hf:fF env c.m with
 |none=>
  rw[hf]at hb;have hb:b=false:=hb;have q:=h false (by unfold Hr;rw[hf]);cbv;repeat' (first|apply bk|exact zf|(intro J;first|exact yB hb J|cbv)|apply bB)
  exact q
 |some i=>
  rw[hf]at hb n;have hb:b=true:=hb;have hl:=E.nl (kf hf);have h:∀b,b=(pU (iq i)).contains c2->K (.bool b) []:=λb e=>h b (by unfold Hr;rw[hf,e,t]);have u:=M7 i;have d:(pU (iq i)).length<=4294967295:=yO;cbv;repeat' (first|apply bk|exact zf|(intro J;first|exact yB hb J|cbv)|apply bB|(refine X.call (F44 n (ly E.dJ hf) (by show (iq i).length<_;omega) λr hr=>?_);cbv)|(refine X.call (Rr hr d λb2 a=>?_);cbv))
  exact h _ a
def F92(E:nO env de){ctx:List Pm}{dc:D}(hc:dc=bt dB ctx)(oV:ctx.length<=1048576)(a:∀p∈ctx,p.bound.fit/\p.name.length<=1048576){s t:Ty}(fs:s.fit)(j:t.fit)
 {c:Int}{a1 a2:S}{a3 a4:D}{d:Int}{b1 b2:S}{g f:D} (ha:cr s c a1 a2 a3 a4) (hb:cr t d b1 b2 g f)
 (h:∀b,b=kH env ctx s t->K (.bool b) []):FT 92 [] [.lst 97 de,.lst 73 dc,dQ c a1 a2 a3 a4,dQ d b1 b2 g f] K:=by
 refine FC.enter (G:={tt:=tt,n:=21,live:=[28]}) fD mixed ⟨Tryz.func92,by rfl,rfl⟩ rfl rfl rfl ?_;intro A C L X;cbv;refine X.call (F28 E hc oV a fs j ha hb (λe=>?_) λe l dm k i=>?_)
 ·have q:=h false e.symm;cbv;exact q
 ·have q:=h true e.symm;cbv;exact q
def XN:(∀{env:List IF}{de:D}(E:nO env de){c:mn}{p:Int}{c1 c2:S}{l:Int}{d:D}{m:Int}{o k:S}{i j:D}{e0:Int}{e1 e2:S}{e3 e4:D}(hc:sa c p c1 c2 l d m o k i j e0 e1 e2 e3 e4){K:PV->List Ob->Prop}(h:∀ g0 g1 g2 g3 g4 g5 g6 g7 g8 s e g11 b,p8 (cp env c.m c.n).1 g0 g1 g2 g3 g4 g5 g6 g7 g8 s e g11->b=Ft env c->K (.tup [tE g0 g1 g2 g3 g4 g5 g6 g7 g8 s e g11,.bool b]) []),FT 95 [] [.lst 97 de,xc p c1 c2 l d m o k i j e0 e1 e2 e3 e4] K)/\
 (∀{env:List IF}{de:D}(E:nO env de){c:mn}{p:Int}{c1 c2:S}{l:Int}{d:D}{m:Int}{o k:S}{i j:D}{e0:Int}{e1 e2:S}{e3 e4:D}(hc:sa c p c1 c2 l d m o k i j e0 e1 e2 e3 e4){K:PV->List Ob->Prop}(h:∀ g0 g1 g2 g3 g4 g5 g6 b,wT (dP env c.m c.n).1 g0 g1 g2 g3 g4 g5 g6->b=qn env c->K (.tup [Cc g0 g1 g2 g3 g4 g5 g6,.bool b]) []),FT 98 [] [.lst 97 de,xc p c1 c2 l d m o k i j e0 e1 e2 e3 e4] K):=by
 refine⟨?_,?_⟩;have v:=trivial
 rotate_left
 have I:=trivial
 rotate_left
 all_goals (
  intro env de E c p c1 c2 l d m o k i j e0 e1 e2 e3 e4 hc K h;obtain⟨_,H,F,_,B,_⟩:=id hc
  first
   |(have w:=v
     refine FC.enter (G:={tt:=tt,n:=36,GZ:=true,pC:=[19,24,29,32]}) fD mixed ⟨Tryz.func95,by rfl,rfl⟩ rfl rfl rfl ?_)
   |(refine FC.enter (G:={tt:=tt,n:=36,GZ:=true,pC:=[19,24,29,32]}) fD mixed ⟨Tryz.func98,by rfl,rfl⟩ rfl rfl rfl ?_)
  intro A C L X;have Z:=oY X.a;have q:A.len d=bj c.ps.length:=gE X.a B;cbv
  first
   |(have w:=v
     refine X.call (Rp E.he E.dJ λg0 g1 g2 g3 g4 g5 g6 g7 g8 s e g11 x r2 f r a=>?_))
   |(refine X.call (F82 E.he E.dJ λg0 g1 g2 g3 g4 g5 g6 x r2 f r a=>?_))
  rw[H,F]at f a
  first
   |(have w:=v
     have g:A.len g1=bj (cp env c.m c.n).1.params.length:=gE X.a f.2.1;have u:A.eq r2 0=decide ((cp env c.m c.n).2.2=0):=by rw[Z,a,cn];simp
     have t:A.eq (A.len g1) (A.len d)=decide ((cp env c.m c.n).1.params.length=c.ps.length):=by rw[Z,g,q,cn];simp;omega
     have h:∀b,b=(A.eq r2 0&&Hr env c&&A.eq (A.len g1) (A.len d))->K (.tup [tE g0 g1 g2 g3 g4 g5 g6 g7 g8 s e g11,.bool b]) []:=λb hb=>h _ _ _ _ _ _ _ _ _ _ _ _ b f (by rw[hb,u,t];rfl))
   |(have g:A.len g1=bj (dP env c.m c.n).1.params.length:=gE X.a f.2.1
     have u:A.eq r2 0=decide ((dP env c.m c.n).2.2=0):=by rw[Z,a,cn];simp
     have t:A.eq (A.len g1) (A.len d)=decide ((dP env c.m c.n).1.params.length=c.ps.length):=by rw[Z,g,q,cn];simp;omega
     have h:∀b,b=(A.eq r2 0&&Hr env c&&A.eq (A.len g1) (A.len d))->K (.tup [Cc g0 g1 g2 g3 g4 g5 g6,.bool b]) []:=λb hb=>h _ _ _ _ _ _ _ b f (by rw[hb,u,t];rfl))
  clear r a f;cbv;repeat' (first|apply bk|exact zf|(intro J;cbv)|apply bB|(refine X.call (abD E hc λb hb=>?_);cbv))
  all_goals first
   |(have z:A.eq r2 0=false:=yA
     exact h _ (by rw[z];rfl))
   |(have z:A.eq r2 0=true:=yA
     have y:b=false:=yA;exact h _ (by rw[z,<-hb,y];rfl))
   |(have z:A.eq r2 0=true:=yA
     have y:b=true:=yA;exact h _ (by rw[z,<-hb,y];rfl))
   |trace_state)
end
end Go.VC.cc
namespace Go.VC
abbrev Jh(o:Int)(c1 c2:S)(f:Int)(e:D)(l:Int)(m j:S)(g i:D)(e0:Int)(e1 e2:S)(e3 e4:D):Ob:=.box [.int .i64 o,.str c1,.str c2,.int .i64 f,.lst 73 e,.int .i64 l,.str m,.str j,.lst 29 g,.lst 57 i,.int .i64 e0,.str e1,.str e2,.lst 29 e3,.lst 57 e4]
structure mn.fit (c:mn):Prop where
 kd:0<=c.k/\c.k<=8
 np:c.ps.length<=1048576
 p:∀p∈c.ps,p.bound.fit/\p.name.length<=1048576
 s:c.s.fit
 t:c.t.fit
def mn.fit.ctx{c:mn}(h:c.fit):(fv c).length<=1048576/\∀p∈fv c,p.bound.fit/\p.name.length<=1048576:=by refine⟨by unfold fv;rw[bA];exact h.np,λp a=>?_⟩;obtain⟨q,b,rfl⟩:=bH.1 a;exact h.p q b
end Go.VC
namespace Go.VC.cc
open Go Go.VC Go.Proofs
section
section
variable {env:List IF}{de:D} (E:nO env de) {c:mn}{o:Int}{c1 c2:S}{f:Int}{e:D}{l:Int}{m j:S}{g i:D}{e0:Int}{e1 e2:S}{e3 e4:D} (hc:sa c o c1 c2 f e l m j g i e0 e1 e2 e3 e4) {K:PV->List Ob->Prop}
include E hc
def YH:dH:={tt:=tt,n:=14,n0:=2}
def F93(h:∀b,b=(fF env c.m).isSome->K (.tup [.lst 50 (.list []),.bool b]) [.box [.lst 97 de],Jh o c1 c2 f e l m j g i e0 e1 e2 e3 e4]):
 FT 93 [.box [.lst 97 de],Jh o c1 c2 f e l m j g i e0 e1 e2 e3 e4] [.box 0 0,.box 1 0] K:=by
 refine el YH Tryz.func93 λA C L X=>?_;cbv;refine X.call (WW E.he E.dJ hc.2.1 λg0 g1 g2 g3 g4 b a hb=>?_);have q:=h b hb;cbv;exact q
def YG:dH:={tt:=tt,n:=13,n0:=2}
def F94(h:∀b,b=Ft env c->K (.tup [.lst 50 (.list []),.bool b]) [.box [.lst 97 de],Jh o c1 c2 f e l m j g i e0 e1 e2 e3 e4]):
 FT 94 [.box [.lst 97 de],Jh o c1 c2 f e l m j g i e0 e1 e2 e3 e4] [.box 0 0,.box 1 0] K:=by
 refine el YG Tryz.func94 λA C L X=>?_;cbv;refine X.call (XN.1 E hc λg0 g1 g2 g3 g4 g5 g6 g7 g8 k a g11 b d hb=>?_);have q:=h b hb;cbv;exact q
def YE:dH:={tt:=tt,n:=13,n0:=2}
def F97(h:∀b,b=qn env c->K (.tup [.lst 50 (.list []),.bool b]) [.box [.lst 97 de],Jh o c1 c2 f e l m j g i e0 e1 e2 e3 e4]):
 FT 97 [.box [.lst 97 de],Jh o c1 c2 f e l m j g i e0 e1 e2 e3 e4] [.box 0 0,.box 1 0] K:=by
 refine el YE Tryz.func97 λA C L X=>?_;cbv;refine X.call (XN.2 E hc λg0 g1 g2 g3 g4 g5 g6 b a hb=>?_);have q:=h b hb;cbv;exact q
def YI:dH:={tt:=tt,n:=18,n0:=2}
def F91(hf:c.fit)(h:∀d b,d=bt dD [(c.s,c.t)]->b=kH env (fv c) c.s c.t->K (.tup [.lst 50 d,.bool b]) [Jh o c1 c2 f e l m j g i e0 e1 e2 e3 e4,.box [.lst 97 de]]):
 FT 91 [Jh o c1 c2 f e l m j g i e0 e1 e2 e3 e4,.box [.lst 97 de]] [.box 0 0,.box 1 0] K:=by
 obtain⟨_,_,_,_,_,hs,k⟩:=id hc;obtain⟨x1,x2⟩:=hf.ctx;refine el YI Tryz.func91 λA C L X=>?_;have h:=λb=>h (A.lit [[.int l,.str m,.str j,g,i,.int e0,.str e1,.str e2,e3,e4]]) b (by rw[jk hs k,X.a];rfl);cbv;repeat' (first|apply bk|exact zf|(intro J;cbv)|apply bB|(refine X.call (F48 hc hf.np λdx a=>?_);cbv)|(refine X.call (F92 E a x1 x2 hf.s hf.t hs k λb hb=>?_);cbv))
 all_goals exact h _ hb
def YF:dH:={tt:=tt,n:=43,n0:=2}
def F96(hl:c.ps.length<=1048576)(h:∀b,b=(Ft env c&&AN (cp env c.m c.n).1 c)->K (.tup [.lst 50 (.list []),.bool b]) [.box [.lst 97 de],Jh o c1 c2 f e l m j g i e0 e1 e2 e3 e4]):
 FT 96 [.box [.lst 97 de],Jh o c1 c2 f e l m j g i e0 e1 e2 e3 e4] [.box 0 0,.box 1 0] K:=by
 obtain⟨_,_,_,y,w,_⟩:=id hc;refine el YF Tryz.func96 λA C L X=>?_;have Z:=oY X.a;have dA:=IV X.a;have F:∀a b:Int,A.le a b=decide (a<=b):=by rw[X.a];exactλ_ _=>rfl
 have x:A.len e=bj c.ps.length:=gE X.a w;cbv;refine X.call (XN.1 E hc λg0 g1 g2 g3 g4 g5 g6 g7 g8 Q P g11 b I hb=>?_);have h:=λr hr=>h r (by rw[<- hb];exact hr);have s:=I.2.1;have p:A.le 0 f=decide (0<=c.i):=by rw[F,y]
 have u:A.lt f (A.len e)=decide (c.i<c.ps.length):=by rw[dA,x,y];rfl
 cases d:b with
 |false=>
  have q:=h false (by rw[d];rfl);cbv;repeat' (first|apply bk|exact zf|(intro J;first|exact yB rfl J|cbv)|apply bB)
  all_goals exact q
 |true=>
  have G:(cp env c.m c.n).1.params.length=c.ps.length:=by rw[d]at hb;have hb:=hb.symm;unfold Ft at hb;simp only[bn,decide_eq_true_eq]at hb;exact hb.2
  by_cases t:0<=c.i
  rotate_left
  ·rw[decide_eq_false t]at p;have q:=h false (by unfold AN;rw[d,decide_eq_false t];rfl);cbv;repeat' (first|apply bk|exact zf|(intro J;first|exact yB p J|cbv)|apply bB)
   all_goals exact q
  rw[decide_eq_true t]at p;by_cases n:c.i<c.ps.length
  rotate_left
  ·rw[decide_eq_false n]at u;have q:=h false (by unfold AN;rw[d,decide_eq_false n];simp);cbv;repeat' (first|apply bk|exact zf|(intro J;first|exact yB p J|exact yB u J|cbv)|apply bB)
   all_goals exact q
  rw[decide_eq_true n]at u;obtain⟨k,hk⟩:∃k:Nat,c.i=bj k:=⟨c.i.toNat,yQ⟩;have z:f=bj k:=y.trans hk;subst z;have v:k<c.ps.length:=by rw[hk]at n;simp at n;omega
  have B:k<(cp env c.m c.n).1.params.length:=yO;have M:=(im X.a s B).2.1;have N:=(im X.a w v).2.1;have O:=iX X.a s B;have H:=iX X.a w v;have q:=h (A.eq (A.asInt (A.cell g1 (bj k) 1)) (A.asInt (A.cell e (bj k) 1))) (by unfold AN;rw[d,decide_eq_true t,decide_eq_true n,Z,M,N,hk,cn];simp[v,B]);cbv;repeat' (first|apply bk|exact zf|(intro J;first|exact yB p J|exact yB u J|cbv)|apply bB)
  all_goals first|exact O|exact H|exact q|exact absurd (show true=false by assumption) (by decide)|trace_state
end
end
section
section
variable {env:List IF}{de:D} (E:nO env de) {c:mn}{j:Int}{c1 c2:S}{s:Int}{l:D}{u:Int}{v r:S}{m o:D}{e0:Int}{e1 e2:S}{e3 e4:D} (hc:sa c j c1 c2 s l u v r m o e0 e1 e2 e3 e4) {K:PV->List Ob->Prop}
include E hc
def VK:dH:={tt:=tt,n:=91,own:=[8,9,12],pC:=[45,46,55,56,77,78,89,90]}
def ab0(hf:c.fit)(h0:(qn env c&&kH env (fv c) c.t c.t)=false->K (.tup [.lst 50 (.list []),.bool false]) [])
 (ac:(qn env c&&kH env (fv c) c.t c.t)=true->∀d,d=bt dD (JK (dP env c.m c.n).1 c)->K (.tup [.lst 50 d,.bool true]) []):FT 100 [] [.lst 97 de,xc j c1 c2 s l u v r m o e0 e1 e2 e3 e4] K:=by
 obtain⟨_,hm,hn,_,hp,_,ht⟩:=id hc;obtain⟨x1,x2⟩:=hf.ctx;refine en VK Tryz.func100 λA C L X=>?_;have Y:=fg X.a;cbv;refine X.call (XN.2 E hc λg0 g1 g2 g3 g4 g5 g6 b hg hb=>?_);rw[<- hb]at h0 ac;cbv;repeat' (first|apply bk|exact zf|(intro J;cbv)|apply bB|(refine X.call (F48 hc hf.np λdx ap=>?_);cbv)|(refine X.call (F92 E ap x1 x2 hf.t hf.t ht ht λb2 ag=>?_);cbv))
 all_goals try (first
  |(have z:A.not b=true:=yA
    rw[Y]at z;exact h0 (by rw[(by simpa using z:b=false)];rfl))
  |(have z:A.not b2=true:=yA
    rw[Y]at z;exact h0 (by rw[<- ag,(by simpa using z:b2=false)];simp)))
 have z1:A.not b=false:=yA;have z2:A.not b2=false:=yA;rw[Y]at z1 z2;have z1:b=true:=yU z1;have h1:=ac (by rw[<- ag,z1,(by simpa using z2:b2=true)];rfl);have W:(dP env c.m c.n).1.params.length=c.ps.length:=by rw[z1]at hb;have hb:=hb.symm;unfold qn at hb;simp only[bn,decide_eq_true_eq]at hb;exact hb.2
 obtain⟨x,hx⟩:∃x,x=(dP env c.m c.n).1:=⟨_,rfl⟩;have V:x.ok:=hx▸Jt E.dJ;rw[<- hx]at h1 W hg;obtain⟨_,M,au⟩:=hg;have aD:=hf.np;obtain⟨h,F,g⟩:=lenOf M;clear h0 ac z2 hx;cbv;refine lP X (λy=>y.1<=h/\y.2.1=bt cT ((x.params.take y.1).map Pm.name)/\y.2.2=bt ca ((c.ps.take y.1).map λq=>iB q.name)) (λy=>h-y.1) (0,.list [],.list []) ⟨bw _,rfl,rfl⟩ [0,1,2,3] (λ(y:Nat×D×D)=>⟨[(37,.int .i64 y.1),(36,.int .i64 (A.len g1)),(35,.lst 73 g1),(9,.row 29 3),(8,.row 9 2),(6,.box 1 0),(3,.box 0 0)],[Jh j c1 c2 s l u v r m o e0 e1 e2 e3 e4,.box [.str g0,.lst 73 g1,.int .i64 g2,.str g3,.str g4,.lst 29 g5,.lst 57 g6],.row 9 y.2.1 true,.row 29 y.2.2 true]⟩) ?_;rintro⟨i,df,R⟩ ⟨hi,B,n⟩;simp only at hi B n;cbv;constructor<;>intro w
 ·have h5:i<x.params.length:=lY X.a g w;have h6:i<c.ps.length:=yO;have k1:=(im X.a M h5).1;have k2:=(im X.a hp h6).1;have ad:=iX X.a M h5;have I:=iX X.a hp h6;have ab:=jX X.a h5;have ao:∀row:List D,A.gr (A.add (A.len df) (A.len (A.lit [row]))) 4294967296:=λrow=>by rw[X.a,B];simp only[SD,bA,cF];omega
  have av:∀row:List D,A.gr (A.add (A.len R) (A.len (A.lit [row]))) 4294967296:=λrow=>by rw[X.a,n];simp only[SD,bA,cF];omega
  have q1:A.app df (A.lit [[.str (A.bG (A.cell g1 (bj i) 0))]])=bt cT ((x.params.take (i+1)).map Pm.name):=by rw[k1,yV h5,X.a,B];exact cD (f:=cT) (k:=[x.params[i].name])
  have q2:A.app R (A.lit [[.int 9,.str [],.str (A.bG (A.cell l (bj i) 0)),.list [],.list []]])=bt ca ((c.ps.take (i+1)).map λq=>iB q.name):=by
   have e:A.app R (A.lit [ca (iB c.ps[i].name)])=bt ca ((c.ps.take (i+1)).map λq=>iB q.name):=by rw[yV h6,X.a,n];exact cD (f:=ca) (k:=[iB c.ps[i].name])
   rw[k2];exact gv (by rw[dn (iB c.ps[i].name)];rfl) e
  clear w k1 k2;cbv;repeat' (first|apply bk|exact zf|(intro J;cbv)|apply bB)
  all_goals try first|exact ad|exact I|exact ab|exact ao _|exact av _
  all_goals first
   |(exact⟨(i+1,_,_),⟨yP,q1,q2⟩,yP,[0,1,2,3],rfl,yc⟩
     done)
   |trace_state
 have h5:i=h:=gY X.a g w;rw[h5,F,bz]at B;rw[h5,F,W,bz]at n;obtain⟨ns,N⟩:∃ns,ns=x.params.map Pm.name:=⟨_,rfl⟩;obtain⟨vs,H⟩:∃vs,vs=c.ps.map λq=>iB q.name:=⟨_,rfl⟩;obtain⟨aJ,hJ⟩:∃aJ,aJ=x.params.zipWith (λp q=>(iB q.name,p.bound.sub (x.params.map Pm.name) (c.ps.map λq=>iB q.name))) c.ps:=⟨_,rfl⟩;have h1:∀d,d=bt dD (aJ++[(x.ty.sub ns vs,c.t)])->K (.tup [.lst 50 d,.bool true]) []:=λd hd=>h1 d (by rw[hd,hJ,N,H];rfl);have ax:aJ.length=x.params.length:=by rw[hJ,uP];omega
 have aw:∀i (a:i<aJ.length) (b:i<x.params.length) (d:i<vs.length),aJ[i]=(vs[i],x.params[i].bound.sub ns vs):=λi a b d=>by subst hJ H N;rw[K4,jT]
 rw[<- N]at B;rw[<- H]at n;have aC:vs.length=x.params.length:=by rw[H,bA];omega
 have aF:ns.length=x.params.length:=by rw[N,bA]
 have aa:∀t∈vs,Ty.le 4294967295 t:=λt ht=>by rw[H]at ht;obtain⟨q,_,rfl⟩:=bH.1 ht;exact .mk _ (by simp[iB,Ty.ar]) (by simp[iB,Ty.fl]) (by simp[iB,Ty.ar]) (by simp[iB,Ty.fl])
 clear w h5 hi hJ N H;cbv;refine lP X (λy=>y.1<=h/\y.2.1=bt dD (aJ.take y.1)) (λy=>h-y.1) (0,.list [],true) ⟨bw _,rfl⟩ [0,1,2,3,4] (λ(y:Nat×D×Bool)=>⟨[(61,.int .i64 y.1),(60,.int .i64 (A.len g1)),(59,.lst 73 g1),(12,.row 50 4),(9,.row 29 3),(8,.row 9 2),(6,.box 1 0),(3,.box 0 0)],[Jh j c1 c2 s l u v r m o e0 e1 e2 e3 e4,.box [.str g0,.lst 73 g1,.int .i64 g2,.str g3,.str g4,.lst 29 g5,.lst 57 g6],.row 9 df y.2.2,.row 29 R y.2.2,.row 50 y.2.1 true]⟩) ?_;rintro⟨i,dj,wr⟩ ⟨hi,G⟩;simp only at hi G;cbv;constructor<;>intro w
 ·have h5:i<x.params.length:=lY X.a g w;have h6:i<vs.length:=yO;have h7:i<aJ.length:=yO;have k1:=(im X.a M h5).2.2;have k2:=iS X.a n h6;have ad:=iX X.a M h5;have I:=iX X.a n h6;have ab:=jX X.a h5;have hB:∀row:List D,A.gr (A.add (A.len dj) (A.len (A.lit [row]))) 4294967296:=λrow=>by rw[X.a,G];simp only[SD,cF];omega
  have an:=(V.p _ (br h5));have ar:∀Q T P U O,cr (x.params[i].bound.sub ns vs) Q T P U O->A.app dj (A.lit [[.int (A.asInt (A.cell R (bj i) 0)),.str (A.bG (A.cell R (bj i) 1)),.str (A.bG (A.cell R (bj i) 2)),A.cell R (bj i) 3,A.cell R (bj i) 4,.int Q,.str T,.str P,U,O]])=bt dD (aJ.take (i+1)):=λQ T P U O hu=>by rw[jk k2 hu,cj h7,aw i h7 h5 h6,X.a,G];exact cD (f:=dD) (k:=[(vs[i],x.params[i].bound.sub ns vs)])
  clear w;cbv;repeat' (first|apply bk|exact zf|(intro J;cbv)|apply bB|(refine X.call (QD B n yO yO aa _ an k1 λQ T P U O hu=>?_);cbv))
  all_goals try first|exact ad|exact I|exact ab|exact hB _
  all_goals first
   |(exact⟨(i+1,_,false),⟨yP,ar _ _ _ _ _ hu⟩,yP,[0,1,2,3,4],rfl,yc⟩
     done)
   |trace_state
 have h5:i=h:=gY X.a g w;have G:dj=bt dD aJ:=by rw[G,h5,F,<-ax,bz]
 have hB:∀row:List D,A.gr (A.add (A.len dj) (A.len (A.lit [row]))) 4294967296:=λrow=>by rw[X.a,G];simp only[SD];omega
 have h1:∀Q T P U O,cr (x.ty.sub ns vs) Q T P U O->K (.tup [.lst 50 (A.app dj (A.lit [[.int Q,.str T,.str P,U,O,.int e0,.str e1,.str e2,e3,e4]])),.bool true]) []:=λQ T P U O hu=>h1 _ (by rw[jk hu ht,X.a,G];exact cD (f:=dD) (k:=[(x.ty.sub ns vs,c.t)]));clear w h5 hi;cbv;repeat' (first|apply bk|exact zf|(intro J;cbv)|apply bB|(refine X.call (QD B n yO yO aa _ V.ty au λQ T P U O hu=>?_);cbv))
 all_goals try exact hB _
 all_goals first
  |exact h1 _ _ _ _ _ yA
  |trace_state
def YD:dH:={tt:=tt,n:=9,n0:=2}
def F99(hf:c.fit)(h:∀b d,b=(qn env c&&kH env (fv c) c.t c.t)->(b=true->d=bt dD (JK (dP env c.m c.n).1 c))->K (.tup [.lst 50 d,.bool b]) [.box [.lst 97 de],Jh j c1 c2 s l u v r m o e0 e1 e2 e3 e4]):
 FT 99 [.box [.lst 97 de],Jh j c1 c2 s l u v r m o e0 e1 e2 e3 e4] [.box 0 0,.box 1 0] K:=by
 refine el YD Tryz.func99 λA C L X=>?_;cbv;refine X.call (ab0 E hc hf (λe=>?_) λe d a=>?_)
 ·have q:=h false (.list []) e.symm (λe=>yC e);cbv;exact q
 ·have q:=h true d e.symm (λ_=>a);cbv;exact q
def Kp:dH:={tt:=tt,n:=31,live:=[91,93,94,96,97,99]}
def F47(hf:c.fit)(h:∀b d,b=(qd env c).isSome->(∀k,qd env c=some k->d=bt dD k)->K (.tup [.lst 50 d,.bool b]) []):FT 47 [] [.lst 97 de,xc j c1 c2 s l u v r m o e0 e1 e2 e3 e4] K:=by
 have h:∀{p:Bool}{x:List Jm}(b:Bool)(d:D),qd env c=(if p=true then some x else none)->b=p->(p=true->d=bt dD x)->K (.tup [.lst 50 d,.bool b]) []:=λ{p x} b d e hb t=>h b d (by rw[e,hb];cases p<;>rfl) λk hk=>by
  rw[e]at hk;cases p with
  |false=>cases hk
  |true=>cases hk;exact t rfl
 have n0:c.k=j:=hc.1.symm;have hk:=hf.kd;rw[n0]at hk;have n:j=0\/j=1\/j=2\/j=7\/j=8\/j=3\/j=4\/j=5\/j=6:=yO;have j1:j≠0->j≠1->j≠2->j≠7->j≠8->3<=j->j<=6->qd env c=(if kH env (fv c) c.s c.t=true then some [(c.s,c.t)]else none):=λa b d e f g i=>by unfold qd;rw[n0,if_neg a,if_neg b,if_neg d,if_neg e,if_neg f,if_pos ⟨g,i⟩]
 clear hk;rcases n with rfl|rfl|rfl|rfl|rfl|n
 ·have h:=λb=>h (p:=(fF env c.m).isSome) (x:=[]) b (.list []) (by unfold qd;rw[if_pos n0]);refine en Kp Tryz.func47 λA C L X=>?_;cbv;refine X.call (F93 E hc λb hb=>?_);have q:=h b hb λ_=>rfl;cbv;exact q
 ·have h:=λb=>h (p:=Ft env c) (x:=[]) b (.list []) (by unfold qd;rw[n0,if_neg yD,if_pos rfl]);refine en Kp Tryz.func47 λA C L X=>?_;cbv;refine X.call (F94 E hc λb hb=>?_);have q:=h b hb λ_=>rfl;cbv;exact q
 ·have h:=λb=>h (p:=Ft env c&&AN (cp env c.m c.n).1 c) (x:=[]) b (.list []) (by unfold qd;rw[n0,if_neg yD,if_neg yD,if_pos rfl]);refine en Kp Tryz.func47 λA C L X=>?_;cbv;refine X.call (F96 E hc hf.np λb hb=>?_);have q:=h b hb λ_=>rfl;cbv;exact q
 ·have h:=λb=>h (p:=qn env c) (x:=[]) b (.list []) (by unfold qd;rw[n0,if_neg yD,if_neg yD,if_neg yD,if_pos rfl]);refine en Kp Tryz.func47 λA C L X=>?_;cbv;refine X.call (F97 E hc λb hb=>?_);have q:=h b hb λ_=>rfl;cbv;exact q
 ·have h:=λb d=>h (p:=qn env c&&kH env (fv c) c.t c.t) (x:=JK (dP env c.m c.n).1 c) b d (by unfold qd;rw[n0,if_neg yD,if_neg yD,if_neg yD,if_neg yD,if_pos rfl]);refine en Kp Tryz.func47 λA C L X=>?_;cbv;refine X.call (F99 E hc hf λb d hb t=>?_);have q:=h b d hb λe=>t (hb.trans e);cbv;exact q
 rcases n with rfl|rfl|rfl|rfl
 all_goals (
  have h:=λb d=>h b d (j1 yD yD yD yD yD yD yD);refine en Kp Tryz.func47 λA C L X=>?_;cbv;refine X.call (F91 E hc hf λd b t hb=>?_);have q:=h b d hb λ_=>t;cbv;exact q)
end
def X3{env:List IF}{de:D}(E:nO env de){c:mn}{j:Int}{c1 c2:S}{s:Int}{l:D}{u:Int}{v r:S}{m o:D}{e0:Int}{e1 e2:S}{e3 e4:D}(hc:sa c j c1 c2 s l u v r m o e0 e1 e2 e3 e4)(hf:c.fit){K:PV->List Ob->Prop}
 (h0:oo env c=none->K (.tup [.lst 73 (.list []),.lst 50 (.list []),.bool false]) [])
 (h1:∀k dx n,oo env c=some k->dx=bt dB (fv c)->n=bt dD k->K (.tup [.lst 73 dx,.lst 50 n,.bool true]) []):
 FT 13 [] [.lst 97 de,xc j c1 c2 s l u v r m o e0 e1 e2 e3 e4] K:=by
 refine en (cf 23) Tryz.func13 λA C L X=>?_;have Y:=fg X.a;have f:A.not true=false:=by rw[Y];rfl
 have g:A.not false=true:=by rw[Y];rfl
 cbv;refine X.call (F46 E.he E.dJ E.ec E.mi E.hT λb hb=>?_);cases b with
 |false=>
  have q:=h0 (by unfold oo;rw[<- hb];rfl);cbv;repeat' (first|apply bk|exact zf|(intro J;first|exact yB g J|cbv)|apply bB)
  all_goals exact q
 |true=>
  have p:oo env c=qd env c:=by unfold oo;rw[<- hb];rfl
  rw[p]at h0 h1;cbv;repeat' (first|apply bk|exact zf|(intro J;first|exact yB f J|cbv)|apply bB)
  refine X.call (F47 E hc hf λb d a h=>?_);cases b with
  |false=>
   have q:=h0 (by cases e:qd env c with|none=>rfl|some k=>rw[e]at a;cases a);cbv;repeat' (first|apply bk|exact zf|(intro J;first|exact yB g J|cbv)|apply bB)
   all_goals exact q
  |true=>
   obtain⟨k,hk⟩:∃k,qd env c=some k:=by cases e:qd env c with|none=>rw[e]at a;cases a|some k=>exact⟨k,rfl⟩
   have h:=h k hk;cbv;repeat' (first|apply bk|exact zf|(intro J;first|exact yB f J|cbv)|apply bB)
   refine X.call (F48 hc hf.np λdx i=>?_);have q:=h1 k dx d hk i h;cbv;exact q
end
end Go.VC.cc
namespace Go.VC
open Classical
abbrev OQ(n:Int)(f:Int)(a1 a2:S)(a3 a4:D)(c:Int)(b1 b2:S)(a e:D):List PV:=[.int .i64 n,.int .i64 f,.str a1,.str a2,.lst 29 a3,.lst 57 a4,.int .i64 c,.str b1,.str b2,.lst 29 a,.lst 57 e]
noncomputable def Ki(out:List rT)(j:Jm):Bool:=out.any λo=>same o.2.1 j.1&&same o.2.2 j.2
noncomputable def nG(out:List rT)(s:rT):List rT:=if Ki out s.2 then out else out++[s]
end Go.VC
namespace Go.VC.cc
open Go Go.VC Go.Proofs
section
section
variable {n:Int}{s t:Ty}{f:Int}{a1 a2:S}{a3 a4:D}{c:Int}{b1 b2:S}{a e:D} (ha:cr s f a1 a2 a3 a4) (hb:cr t c b1 b2 a e) {K:PV->List Ob->Prop}
variable {l:List rT}{d:D}
include ha hb
def F51{u v:Ty}(hu:Ty.le 4294967295 u)(y:Ty.le 4294967295 v){m:Int}{w:Int}{c1 c2:S}{p r:D}{d0:Int}{q d2:S}{k j:D}(hc:cr u w c1 c2 p r)(x:cr v d0 q d2 k j)
 (h:∀b,b=(same u s&&same v t)->K (.bool b) []):
 FT 51 [] [.agg (OQ m w c1 c2 p r d0 q d2 k j),.du (OQ n f a1 a2 a3 a4 c b1 b2 a e) 0] K:=by
 refine en (cf 16) Tryz.func51 λA C L X=>?_;cbv;refine X.call (X2 u hu hc ha λo g=>?_);rw[<- g]at h;clear g;cbv;repeat' (first|apply bk|exact zf|(intro J;cbv)|apply bB|(refine X.call (X2 v y x hb λr2 i=>?_);cbv))
 all_goals first
  |(have z:o=true:=yA
    exact h _ (by rw[z,i];rfl))
  |(have z:o=false:=yA
    exact h _ (by rw[z];rfl))
def abR(v:d=bt jA l)(hl:l.length<=4294967290)(y:∀x∈l,Ty.le 4294967295 x.2.1/\Ty.le 4294967295 x.2.2)
 (h:∀r:Int,r=ou (λo:rT=>same o.2.1 s&&same o.2.2 t) l->K (.int .i64 r) []):
 FT 110 [] [.lst 60 d,.cu 51 [.du (OQ n f a1 a2 a3 a4 c b1 b2 a e) 0]] K:=by
 refine en (cf 19) Tryz.func110 λA C L X=>?_;obtain⟨k,p,g⟩:=lenOf v;cbv;refine lu X (λi=>i<=k/\∀x∈l.take i,(same x.2.1 s&&same x.2.2 t)=false) (λi=>k-i) 0 ⟨bw _,yS⟩ (λ(i:Nat)=>[(8,.int .i64 i)]) ?_;rintro i ⟨H,u⟩;cbv;constructor<;>intro h1
 ·have h5:i<l.length:=lY X.a g h1;obtain⟨G,E,F⟩:=OS X.a v h5;have B:=iX X.a v h5;have w:=jX X.a h5;obtain⟨l1,l2⟩:=y _ (br h5);clear h1;cbv;repeat' (first|apply bk|exact zf|(intro J;cbv)|apply bB)
  any_goals exact B
  refine X.call (F51 ha hb l1 l2 E F λb j=>?_);have j:b=(same l[i].2.1 s&&same l[i].2.2 t):=j;cbv;repeat' (first|apply bk|exact zf|(intro J;cbv)|apply bB)
  any_goals exact w
  ·have z:b=true:=yA;exact h i (mH h5 u (by rw[<- j,z])).symm
  ·have z:b=false:=yA;refine⟨i+1,⟨yO,?_⟩,yO,?_⟩
   ·rw[cj h5];intro x m;rcases bE.1 m with m|m
    ·exact u x m
    ·simp at m;subst m;rw[<- j,z]
   exact yc
 ·have h5:i=k:=gY X.a g h1;rw[h5,p,bz]at u;have q:=h (-1) (mI u).symm;cbv;exact q
def F50(i:d=bt jA l)(hl:l.length<=4294967290)(g:∀x∈l,Ty.le 4294967295 x.2.1/\Ty.le 4294967295 x.2.2)
 (h:∀b,b=Ki l (s,t)->K (.bool b) []):
 FT 50 [] [.lst 60 d,.cu 51 [.du (OQ n f a1 a2 a3 a4 c b1 b2 a e) 0]] K:=by
 refine en (cf 9) Tryz.func50 λA C L X=>?_;cbv;refine X.call (abR ha hb i hl g λr hr=>?_);have q:=h (A.le 0 r) (by rw[X.a,hr];unfold Ki;exact qQ.symm);cbv;exact q
end
end
end Go.VC.cc
