/- Part 7 of the common texts. -/
import Derived.Test.YtefbdgenddbehaaGreatDoorPart5
import Derived.Test.YtefbdgenddbehaaGreatDoorPart6
set_option linter.all false
set_option maxRecDepth 100000
set_option maxHeartbeats 16000000
open And renaming intro→bw
open Bool renaming and_false→fb,and_true→qI,eq_iff_iff→cm,false_and→fH,not_eq_false'→oS,not_not→xS,or_true→ow,true_and→fB,true_eq_false→Na,true_or→xR
open Eq renaming trans→ku
open Int renaming natCast_nonneg→cW,ofNat→br,ofNat_eq_natCast→bz,ofNat_le→sW
open List renaming all_append→nS,all_cons→wL,all_eq_true→dk,all_nil→Ip,any_append→jB,any_cons→kW,any_eq_false→gS,any_eq_true→dZ,append_assoc→bN,cons_append→cO,contains_iff_mem→dr,drop_eq_getElem_cons→bM,drop_length→bZ,eq_nil_of_length_eq_zero→cz,flatMap_append→cV,getElem?_append_left→bU,getElem?_eq_getElem→bB,getElem?_eq_none→bY,getElem_map→jg,getElem_mem→bx,getLast?_eq_getElem?→kG,length_append→bE,length_cons→bS,length_drop→mL,length_map→bQ,length_nil→cH,length_pos_of_mem→sK,length_take→cZ,length_zip→BW,map_append→cg,map_cons→bO,mem_append→bJ,mem_append_left→eu,mem_append_right→dV,mem_cons→bP,mem_cons_of_mem→gG,mem_map→bT,mem_of_find?_eq_some→di,mem_singleton→cU,mem_take_iff_getElem→iE,nil_append→ep,not_mem_nil→mK,take_append_drop→dG,take_length→bF,take_of_length_le→cG,take_zero→j5
open List.Pairwise renaming imp→ic
open Nat renaming add_assoc→eR,eq_zero_or_pos→pE,le_of_lt→JO,le_refl→ca,le_trans→bR,lt_or_ge→cb,min_eq_left→De,min_self→JN,zero_le→bD
open Option renaming getD_some→dQ
open Option.some renaming inj→fF
open Or renaming inl→bG
open Prod.mk renaming injEq→ey
namespace Go.VC.cK
open Go Go.VC Go.Proofs
section
variable {K:PV->List Ob->Prop}
def ZG:∀(t:Ty),Ty.le 4294967295 t->t.size<=4294967295->∀{s:Int}{c1 c2:S}{n p:D}{K:PV->List Ob->Prop},cD t s c1 c2 n p->(∀r:Int,r=br t.wH->K (.int .i64 r) [])->FT 62 [] [df s c1 c2 n p] K:=by
 refine Ty.fC λt E=>?_;intro j hs s c1 c2 n p K v h;have o:=L8 t;obtain⟨d,k⟩:=oY hs;obtain⟨f,hf⟩:∃f:Nat->Nat,f=λi=>nI ((t.dP.take i).map Ty.wH):=⟨_,rfl⟩;have w:f 0=0:=by rw[hf];rfl
 have fs:∀i (h:i<t.dP.length),f (i+1)=max (f i) t.dP[i].wH:=λi h=>by rw[hf];simp only;rw[bX h,cg,rC];simp[nI]
 have fn:t.wH=1+f t.dP.length:=by rw[GQ,hf];simp only;rw[bF]
 clear hf;rw[fn]at h o;refine en (cf 23) Tryz.func62 λA C L X=>?_;cbv;refine X.call (PF j k v λr hr=>?_);obtain⟨b,c,a⟩:=lenOf hr;cbv;refine lu X (λy=>y.1<=b/\y.2=br (f y.1)) (λy=>b-y.1) (0,0) ⟨bD _,by rw[w];rfl⟩ (λ(y:Nat×Int)=>[(5,.int .i64 y.1),(3,.int .i64 y.2)]) ?_;rintro⟨i,m⟩ ⟨B,g⟩;simp only at B g;cbv;constructor<;>intro h1
 ·have h5:i<t.dP.length:=lY X.a a h1;have u:=gI X.a hr h5;have F:=iX X.a hr h5;have e:=jX X.a h5;have l:=fs i h5;refine p1 ?_;refine X.call (E _ (bx h5) (gP j _ (bx h5)) (d _ (bx h5)) u λz x=>?_);have q:A.max m z=br (f (i+1)):=by rw[X.a,z8,l,g,x];simp only[bz];omega
  refine p1 ?_;exact⟨(i+1,_),⟨yP,q⟩,yP,yc⟩
 have h5:i=b:=gY X.a a h1;rw[h5,c]at g;have e:A.inr .i64 (A.add m 1):=by rw[X.a,g,dK,dO];simp only[bz];omega
 have q:=h (A.add m 1) (by rw[X.a,g,dO];simp only[bz];omega);cbv;refine .inl ⟨e,λ_=>?_⟩;cbv;exact q
def ZF:∀(t:Ty),Ty.le 4294967295 t->t.size<=4294967295->(∀u∈t.all,u.mF)->∀{q:Int}{c1 c2:S}{n p:D}{K:PV->List Ob->Prop},cD t q c1 c2 n p->(∀r:Int,r=fj (t.all.map qp)->K (.int .i64 r) [])->FT 63 [] [df q c1 c2 n p] K:=by
 refine Ty.fC λt y=>?_;intro f hs w q c1 c2 n p K v h;obtain⟨g,l⟩:=oY hs;have j:fj (t.all.map qp)=if qp t=0 then fj ((t.dP.flatMap Ty.all).map qp)else qp t:=by rw[all_eq,bO,fT]
 refine en (cf 28) Tryz.func63 λA C L X=>?_;have Y:=fz X.a;have Z:=mI X.a;cbv;refine X.call (Xx f (w t (ji t)) v λs k=>?_);rw[j,<-k]at h;refine p2 (λJ=>?_) (λJ=>?_)
 ·have J:A.not (A.eq s 0)=true:=J;rw[Y,Z]at J;refine h _ ?_;rw[if_neg (yU J)]
 have J:A.not (A.eq s 0)=false:=J;rw[Y,Z]at J;rw[if_pos (yU J)]at h;refine X.call (PF f l v λB c=>?_);obtain⟨b,e,a⟩:=lenOf c;cbv;refine lu X (λi=>i<=b/\fj (((t.dP.take i).flatMap Ty.all).map qp)=0) (λi=>b-i) 0 ⟨bD _,rfl⟩ (λ(i:Nat)=>[(5,.int .i64 i)]) ?_;rintro i ⟨E,ha⟩;cbv;constructor<;>intro h1
 ·have h5:i<t.dP.length:=lY X.a a h1;have x:=gI X.a c h5;have z:=iX X.a c h5;have m:=jX X.a h5;have e2:t.dP.flatMap Ty.all=(t.dP.take (i+1)).flatMap Ty.all++(t.dP.drop (i+1)).flatMap Ty.all:=by rw[<- cV,dG]
  have d:fj (((t.dP.take (i+1)).flatMap Ty.all).map qp)=fj (t.dP[i].all.map qp):=by rw[gf h5,cg,kC,ha,if_pos rfl]
  refine p1 ?_;refine X.call (y _ (bx h5) (gP f _ (bx h5)) (g _ (bx h5)) (λu hu=>w u (lU (bx h5) hu)) x λe1 o=>?_);rw[<- o]at d;cbv;repeat' (first|apply bw|exact zf|(intro J;cbv)|apply bG)
  any_goals exact m
  ·have J:A.not (A.eq e1 0)=true:=yA;rw[Y,Z]at J;refine h _ ?_;rw[e2,cg,kC,d,if_neg (yU J)]
  ·have J:A.not (A.eq e1 0)=false:=yA;rw[Y,Z]at J;refine⟨i+1,⟨yO,?_⟩,yO,?_⟩
   ·rw[d];simpa using J
   exact yc
 ·have h5:i=b:=gY X.a a h1;cbv;refine h 0 ?_;rw[h5,e,bF]at ha;exact ha.symm
def ZU{t:Ty}(d:Ty.le 4294967295 t)(hs:t.size<=4294967295)(p:∀u∈t.all,u.mF){o:Int}{c1 c2:S}{m n:D}(l:cD t o c1 c2 m n)
 (h:∀r:Int,r=CW t->K (.int .i64 r) []):FT 36 [] [df o c1 c2 m n] K:=by
 have g:(4096:Int)<br t.size->7=CW t:=λe=>by rw[CW,if_pos (.inl (by simp only[bz]at e;omega))]
 have j:(32:Int)<br t.wH->7=CW t:=λe=>by rw[CW,if_pos (.inr (by simp only[bz]at e;omega))]
 have c:¬(4096:Int)<br t.size->¬(32:Int)<br t.wH->∀r,r=fj (t.all.map qp)->r=CW t:=λa b r hr=>by rw[CW,if_neg (by simp only[bz]at a b;omega),hr]
 refine en (cf 13) Tryz.func36 λA C L X=>?_;have da:=Dh X.a;cbv;refine X.call (TR d hs l λk f=>?_);have f:k=br t.size:=f;rw[<- f]at g c;have g1:A.lt 4096 k=true->7=CW t:=λe=>g (by rw[da]at e;exact of_decide_eq_true e);cbv;repeat' (first|apply bw|exact zf|(intro J;cbv)|apply bG|(refine X.call (ZG t d hs l λr2 i=>?_);cbv))
 ·have e:A.lt 32 r2=true:=yA;exact h _ (j (by rw[da,i]at e;exact of_decide_eq_true e))
 ·have e:A.lt 32 r2=false:=yA;have e1:A.lt 4096 k=false:=yA;rw[da,i]at e;rw[da]at e1;have c:=c (of_decide_eq_false e1) (of_decide_eq_false e);refine X.call (ZF t d hs p l λr hr=>?_);cbv;exact h _ (c _ hr)
 ·exact h _ (g1 yA)
def OX{l:List S}{d:D}{s:S}(hd:d=bH encS l)(hl:l.length<=4294967295)
 (h:∀b,b=l.contains s->K (.bool b) []):FT 64 [] [.lst 9 d,.str s] K:=by
 refine en (cf 8) Tryz.func64 λA C L X=>?_;cbv;refine X.call (Ue hd hl λb hb=>?_);cbv;exact h _ hb
end
section
variable {env:List IF}{a c:D}{vs:List S}
def ZT(he:a=bH dC env)(O:dW env)(hv:c=bH encS vs)(H:vs.length<=4294967295):
 ∀(t:Ty),Ty.le 4294967295 t->t.size<=4294967295->∀{g:Int}{c1 c2:S}{w Q:D}{K:PV->List Ob->Prop},cD t g c1 c2 w Q->(∀r:Int,r=oF env vs t->K (.int .i64 r) [])->FT 37 [] [.lst 51 a,.lst 9 c,df g c1 c2 w Q] K:=by
 refine Ty.fC λt ih=>?_;intro y hs g c1 c2 w Q K T h;obtain⟨x,G⟩:=oY hs;have I:=T;obtain⟨t0,t1,t2,R,ae⟩:=T;refine en (cf 64) Tryz.func37 λA C L X=>?_;have Y:=fz X.a;have Z:=mI X.a;have U:A.len w=br t.ar.length:=gr X.a R;have m:∀d':D,d'=bH ew (dD env c1 c2).1.params->A.len d'=br (dD env c1 c2).1.params.length:=λd' h=>gr X.a h;obtain⟨e,s⟩:∃e,e=mE env vs t:=⟨_,rfl⟩;have d:=s;unfold mE at d;rw[<- t0,<-t1,<-t2]at d;rw[Bh,<-s]at h;have F:e≠0->K (.int .i64 e) []:=λz=>h e (by rw[if_neg z]);have E:A.eq g 9=true->g=9:=by rw[Z];exactλe=>eq_of_beq e
 have l:A.eq g 9=false->¬g=9:=by rw[Z];exactλe=>beq_eq_false_iff_ne.1 e
 have n:A.eq g 10=true->g=10:=by rw[Z];exactλe=>eq_of_beq e
 have o:A.eq g 10=false->¬g=10:=by rw[Z];exactλe=>beq_eq_false_iff_ne.1 e
 cases e9:A.eq g 9<;>cases gD:A.eq g 10
 all_goals try (exfalso;have:=E e9;have:=n gD;omega)
 all_goals (
  cbv;repeat' (first|apply bw|exact zf|(intro J;first|exact yB e9 J|exact yB gD J|cbv)|apply bG|(refine X.call (OX hv H λb hb=>?_);cbv)|(refine X.call (TF he O λ_ p1 _ _ _ _ _ _ _ _ _ _ r1 r2 W af k=>?_);cbv))
  all_goals try (
   have e2:A.not b=true:=yA;have q:e=4:=by rw[d,if_pos (E e9),<-hb];rw[Y]at e2;rw[if_neg (by intro z;rw[z]at e2;cases e2)]
   have B:K (.int .i64 4) []:=by rw[<- q];exact F (by rw[q];decide)
   exact B)
  all_goals try (
   have e2:A.not (A.eq r2 0)=true:=yA;rw[Y,Z,k]at e2;have q:e=r2:=by rw[d,if_neg (l yA),if_pos (n yA),if_pos (yU e2),k]
   have B:K (.int .i64 r2) []:=by rw[<- q];exact F (by rw[q,k];simpa using e2)
   exact B)
  all_goals try (
   have e2:A.not (A.eq (A.len p1) (A.len w))=true:=yA;have e3:A.not (A.eq r2 0)=false:=yA;rw[Y,Z,k]at e3;rw[Y,Z,m _ W.2.1,U]at e2;have q:e=11:=by rw[d,if_neg (l yA),if_pos (n yA),if_neg (yU e3),if_pos (by intro z;rw[z]at e2;simp at e2)]
   have B:K (.int .i64 11) []:=by rw[<- q];exact F (by rw[q];decide)
   exact B))
 all_goals (
  have V:e=0:=by
   rw[d]
   first
    |rw[if_neg (l yA),if_neg (o yA)]
    |(have e2:A.not b=false:=yA
      rw[if_pos (E yA),<-hb];rw[Y]at e2;rw[if_pos (yU e2)])
    |(have e2:A.not (A.eq (A.len p1) (A.len w))=false:=yA
      have e3:A.not (A.eq r2 0)=false:=yA;rw[Y,Z,k]at e3;rw[Y,Z,m _ W.2.1,U]at e2;rw[if_neg (l yA),if_pos (n yA),if_neg (yU e3),if_neg (by have J:(br (dD env c1 c2).1.params.length==br t.ar.length)=true:=yU e2;have:=eq_of_beq J;simp only[bz]at this;omega)])
  rw[if_pos V]at h;clear V F s d E l n o m;refine X.call (PF y G I λrp p=>?_);obtain⟨j,v,f⟩:=lenOf p;cbv;refine lu X (λi=>i<=j/\fj (((t.dP.take i).flatMap Ty.all).map (mE env vs))=0) (λi=>j-i) 0 ⟨bD _,rfl⟩ (λ(i:Nat)=>[(11,.int .i64 i)]) ?_;rintro i ⟨hi,ha⟩;cbv;constructor<;>intro h1
  ·have h5:i<t.dP.length:=lY X.a f h1;have k1:=gI X.a p h5;have P:=iX X.a p h5;have M:=jX X.a h5;have e2:t.dP.flatMap Ty.all=(t.dP.take (i+1)).flatMap Ty.all++(t.dP.drop (i+1)).flatMap Ty.all:=by rw[<- cV,dG]
   have u:fj (((t.dP.take (i+1)).flatMap Ty.all).map (mE env vs))=oF env vs t.dP[i]:=by rw[gf h5,cg,kC,ha,if_pos rfl];rfl
   cbv;repeat' (first|apply bw|exact zf|(intro J;cbv)|apply bG)
   all_goals (try exact P)
   refine X.call (ih _ (bx h5) (gP y _ (bx h5)) (x _ (bx h5)) k1 λe1 N=>?_);rw[<- N]at u;have g1:A.not (A.eq e1 0)=true->K (.int .i64 e1) []:=by rw[Y,Z];intro z;exact h _ (by rw[e2,cg,kC,u,if_neg (yU z)])
   have g2:A.not (A.eq e1 0)=false->e1=0:=by rw[Y,Z];intro z;simpa using z
   cbv;repeat' (first|apply bw|exact zf|(intro J;cbv)|apply bG)
   all_goals (try exact M)
   all_goals first
    |exact g1 yA
    |(refine⟨i+1,⟨yO,u.trans (g2 yA)⟩,yO,?_⟩;exact yc)
  ·have h5:i=j:=gY X.a f h1;have q:=h 0 (by rw[h5,v,bF]at ha;exact ha.symm);cbv;exact q)
def Rx(n:a=bH dC env)(d:dW env)(o:c=bH encS vs)(f:vs.length<=4294967295)
 {t:Ty} (b:Ty.le 4294967295 t) (hs:t.size<=4294967295) (p:∀u∈t.all,u.mF) {j:Int}{c1 c2:S}{k m:D}{K:PV->List Ob->Prop} (l:cD t j c1 c2 k m) (h:∀r:Int,r=nu env vs t->K (.int .i64 r) []):
 FT 22 [] [.lst 51 a,.lst 9 c,df j c1 c2 k m] K:=by
 refine en (cf 17) Tryz.func22 λA C L X=>?_;have Y:=fz X.a;have Z:=mI X.a;cbv;refine X.call (ZU b hs p l λi e=>?_);rw[nu,<-e]at h;refine p2 (λJ=>?_) (λJ=>?_)
 ·have J:A.not (A.eq i 0)=true:=J;rw[Y,Z]at J;exact h _ (by rw[if_pos (yU J)])
 have J:A.not (A.eq i 0)=false:=J;rw[Y,Z]at J;rw[if_neg (yU J)]at h;refine X.call (ZT n d o f t b hs l λe1 g=>?_);cbv;exact h _ g
end
end Go.VC.cK
namespace Go.VC
structure Ty.enc (t:Ty):Prop where
 le:Ty.le 4294967295 t
 sz:t.size<=1048576
 mF:∀u∈t.all,u.mF
def Ty.enc.ct{t:Ty}(h:t.enc){env:List IF}{vs:List S}(a:nu env vs t=0):Ct t:=⟨h.le,h.mF,B5 a⟩
end Go.VC
namespace Go.VC.cK
open Go Go.VC Go.Proofs
def Vp:eE:={tt:=tt,n:=57,gK:=g21.gK,own:=[8]}
def Z2{env:List IF}{v:D}(S:v=bH dC env)(H:dW env){ctx:List Pm}{n:D}(hc:n=bH ew ctx)(T:ctx.length<=1048576)(G:∀p∈ctx,p.bound.enc/\p.name.length<=1048576){K:PV->List Ob->Prop}
 (h:∀b,(b=true->∀p∈ctx,∃vs,nu env vs p.bound=0)->K (.bool b) []):
 FT 21 [] [.lst 51 v,.lst 56 n] K:=by
 have w:=h false (λe=>yC e);refine en Vp Tryz.func21 λA C L X=>?_;have Y:=fz X.a;have Z:=mI X.a;have N:=Dh X.a;obtain⟨d,l,a⟩:=lenOf hc;cbv;refine lP X (λy=>y.1<=d/\(∃vs,y.2.1=bH encS vs/\vs.length<=y.1)/\∀p∈ctx.take y.1,∃vs,nu env vs p.bound=0) (λy=>d-y.1) (0,A.lit [],true) ⟨bD _,⟨[],yX,ca _⟩,yS⟩ [0] (λ(y:Nat×D×Bool)=>⟨[(6,.int .i64 y.1),(5,.row 9 0),(1,.lst 56 n),(0,.lst 51 v)],[.row 9 y.2.1 y.2.2]⟩) ?_;rintro⟨i,E,wr⟩ ⟨Q,⟨vs,c,B⟩,g⟩;simp only at Q c B g;cbv;constructor<;>intro h1
 ·have h5:i<ctx.length:=lY X.a a h1;obtain⟨M,V,R⟩:=kB X.a hc h5;obtain⟨m,P⟩:=G _ (bx h5);have u:=iX X.a hc h5;have F:=jX X.a h5;have s:(A.bL (A.cell n (br i) 0)).length<=4294967295:=by rw[M];omega
  have U:∀row:List D,A.fU (A.add (A.len E) (A.len (A.lit [row]))) 4294967296:=λrow=>by rw[X.a,c];simp only[SD];omega
  have eA:A.app E (A.lit [[.str (A.bL (A.cell n (br i) 0))]])=bH encS (vs++[ctx[i].name]):=by rw[M,X.a,c];exact cx (k:=[ctx[i].name])
  have t:ctx[i].bound.size<=4294967295:=by have:=m.sz;omega
  clear h1;cbv;repeat' (first|apply bw|exact zf|(intro J;cbv)|apply bG|(refine X.call (X2 s λb hb=>?_);cbv)|(refine X.call (Rx S H c yO m.le t m.mF R λr hr=>?_);cbv))
  all_goals try first|exact u|exact w
  have z:A.not (A.eq r 0)=false:=yA;have z:nu env vs ctx[i].bound=0:=by rw[Y,Z,hr]at z;simpa using z
  obtain⟨j,x,f⟩:=lenOf c;refine lP X (λk=>k<=j) (λk=>j-k) 0 (bD _) [0] (λ(k:Nat)=>⟨[(7,.int .i64 k),(6,.int .i64 i),(5,.row 9 0),(1,.lst 56 n),(0,.lst 51 v)],[.row 9 E wr]⟩) ?_;rintro k hk;cbv;constructor<;>intro J
  ·have h6:k<vs.length:=lY X.a f J;have I:=iX X.a c h6;have O:=jX X.a h6;clear J;refine p1 ?_;exact⟨k+1,yO,yO,[0],rfl,yc⟩
  ·cbv;repeat' (first|apply bw|exact zf|(intro J;cbv)|apply bG)
   all_goals try first|exact u|exact F|exact U _
   refine⟨(i+1,_,wr),⟨yP,⟨_,eA,yQ⟩,?_⟩,yP,[0],rfl,?_⟩
   ·simp only;rw[bX h5];intro p o;rcases bJ.1 o with o|o
    ·exact g p o
    ·simp at o;subst o;exact⟨vs,z⟩
   exact yc
 ·have h5:i=d:=gY X.a a h1;have q:=h true (λ_=>by rw[h5,l,bF]at g;exact g);cbv;exact q
section
variable {env:List IF}{K:PV->List Ob->Prop}{c:D}
def Xe{d:D}{m n:S}(hd:d=bH dC env)(hl:dW env)
 (h:∀s e1 e2 e3 e4 e5 e6 t r2,tn (gb env m n).1 s e1 e2 e3 e4 e5 e6->t=(gb env m n).2.1->r2=(gb env m n).2.2->K (.tup [xv s e1 e2 e3 e4 e5 e6,.str t,.int .i64 r2]) []):
 FT 144 [] [.lst 51 d,.str m,.str n] K:=by
 have r:=sD (env:=env) 65 m n;refine en (cf 56) Tryz.func144 λA C L X=>?_;cbv;refine X.call (TB hd hl λr0 t r2 hr=>?_);unfold fZ at hr;have bad:∀(e:Int),e≠0->gb env m n=(VE.zero,[],e)->(r0,t,r2)=(([],[],e):S×S×Int)->A.eq r2 0=false/\K (.tup [xv [] (.list []) 0 [] [] (.list []) (.list []),.str [],.int .i64 r2]) []:=by intro e h0 q f;simp only[ey]at f;obtain⟨rfl,rfl,rfl⟩:=f;rw[q]at h;refine⟨?_,h _ _ _ _ _ _ _ _ _ ⟨rfl,rfl,rfl,rfl,rfl,rfl,rfl⟩ rfl rfl⟩;rw[X.a,fR];simpa using h0
 cases f:lq env m n with
 |nf=>
  rw[f]at hr;obtain⟨g1,g2⟩:=bad 6 yS (by unfold gb;rw[show ib env 65 m n=lq env m n from rfl,f]) hr;cbv;repeat' (first|apply bw|exact zf|(intro J;cbv)|apply bG)
  all_goals first
   |exact g2
   |(exfalso;rw[g1]at J;obtain rfl:=X.a;simp[fR,fh,dq]at *;done)
 |loop=>
  rw[f]at hr;obtain⟨g1,g2⟩:=bad 14 yS (by unfold gb;rw[show ib env 65 m n=lq env m n from rfl,f]) hr;cbv;repeat' (first|apply bw|exact zf|(intro J;cbv)|apply bG)
  all_goals first
   |exact g2
   |(exfalso;rw[g1]at J;obtain rfl:=X.a;simp[fR,fh,dq]at *;done)
 |wO m' n' x=>
  rw[f]at hr;simp only[ey]at hr;obtain⟨k,g,u⟩:=hr;obtain⟨i,o,y⟩:=r.1 m' n' x f;have q:gb env m n=(VE.zero,[],6):=by unfold gb;rw[show ib env 65 m n=lq env m n from rfl,f]
  rw[q]at h;clear bad;refine p2 (λJ=>?_) (λJ=>?_)
  ·exfalso;obtain rfl:=X.a;simp only[SD]at J;omega
  refine X.call (Q2 hd hl.1 k λs e1 e2 e3 e4 b a hb=>?_);rw[o]at a hb;simp only[dQ]at a;cbv;refine X.call (JV.1 a (j9 hl o).nt g λV c1 c2 N U P R I B H w v b1 hc j=>?_);rw[y]at hc j;obtain rfl:b1=true:=j;cbv;refine X.call (JV.2.1 a (j9 hl o).nv g λT M O E Q G F b2 z l=>?_);clear hb l z;cbv;repeat' (first|apply bw|exact zf|(intro J;cbv)|apply bG)
  all_goals first
   |exact h _ _ _ _ _ _ _ _ _ ⟨rfl,rfl,rfl,rfl,rfl,rfl,rfl⟩ rfl rfl
   |(exfalso;obtain rfl:=X.a;simp[fh,dq]at *;done)
   |trace_state
 |val m' n' x=>
  rw[f]at hr;simp only[ey]at hr;obtain⟨k,g,u⟩:=hr;obtain⟨i,o,y,z⟩:=r.2 m' n' x f;have q:gb env m n=(x,m',0):=by unfold gb;rw[show ib env 65 m n=lq env m n from rfl,f]
  rw[q,<-k]at h;clear bad;refine p2 (λJ=>?_) (λJ=>?_)
  ·exfalso;obtain rfl:=X.a;simp only[SD]at J;omega
  refine X.call (Q2 hd hl.1 k λs e1 e2 e3 e4 b a hb=>?_);rw[o]at a hb;simp only[dQ]at a;cbv;refine X.call (JV.1 a (j9 hl o).nt g λV c1 c2 N U P R I B H w v b1 hc j=>?_);rw[y]at hc j;obtain rfl:b1=false:=j;cbv;refine X.call (JV.2.1 a (j9 hl o).nv g λT M O E Q G F b2 p l=>?_);rw[z]at p l;simp only[dQ]at p;obtain rfl:b2=true:=l;clear hb hc;cbv;repeat' (first|apply bw|exact zf|(intro J;cbv)|apply bG)
  all_goals first
   |exact h _ _ _ _ _ _ _ _ _ p rfl rfl
   |(exfalso;obtain rfl:=X.a;simp[fh,dq]at *;done)
   |skip
def Zm(m:c=bH dC env)(g:dW env){x:AE}(d:x.fit){n c1 c2:S}(s:C6 x n c1 c2)(h:∀r:Int,r=j3 env x->K (.int .i64 r) []):
 FT 97 [] [.lst 51 c,.agg [.str n,.str c1,.str c2]] K:=by
 obtain⟨rfl,rfl,rfl⟩:=s;have l:x.name.length<=4294967295:=bR d.n yD;have k:x.target.length<=4294967295:=bR d.g yD;unfold j3 at h;refine en (cf 49) Tryz.func97 λA C L X=>?_;cbv;repeat' (first|apply bw|exact zf|(intro J;cbv)|apply bG|(refine X.call (TD l λa1 b=>?_);cbv)|(refine X.call (TD k λa2 e=>?_);cbv)|(refine X.call (JK l λb1 i=>?_);cbv)|(refine X.call (JK k λb2 f=>?_);cbv)|(refine X.call (TF m g λp0 p1 p2 p3 u t y B F M q p o r2 G j a=>?_);cbv)|(refine X.call (Xe m g λO E H v I P w o r2 N j a=>?_);cbv))
 all_goals refine h _ ?_
 all_goals first
  |(have e1:a1=true:=yA
    have e2:a2=true:=yA;rw[if_pos (by rw[<- b,<-e,e1,e2];rfl)];exact a)
  |(have z:¬(iT x.name&&iT x.target)=true:=by
     first
      |(have e2:a2=false:=yA
        rw[<- e,e2,fb];decide)
      |(have e1:a1=false:=yA
        rw[<- b,e1,fH];decide)
    rw[if_neg z]
    first
     |(have e1:b1=true:=yA
       have e2:b2=true:=yA;rw[if_pos (by rw[<- i,<-f,e1,e2];rfl)];exact a)
     |(have e2:b2=false:=yA
       rw[if_neg (by rw[<- f,e2,fb];decide)])
     |(have e1:b1=false:=yA
       rw[if_neg (by rw[<- i,e1,fH];decide)]))
def Zn(F:c=bH dC env)(v:dW env){x:VE}(e:x.fit){E:S}{e1:D}{e2:Int}{e3 e4:S}{e5 e6:D}(O:tn x E e1 e2 e3 e4 e5 e6)(h:∀r:Int,r=sM env x->K (.int .i64 r) []):
 FT 96 [] [.lst 51 c,xv E e1 e2 e3 e4 e5 e6] K:=by
 obtain⟨P,w,N⟩:=O;have I:=e.np;obtain⟨vs,s⟩:∃vs,vs=x.params.map Pm.name:=⟨_,rfl⟩;have H:vs.length=x.params.length:=by rw[s];simp
 unfold sM at h;rw[<- s]at h
 have m:ij nr x.params=ij (lG false) x.params:=by
  have:lG false=nr:=by funext p;rfl
  rw[this]
 rw[m]at h;refine en Yt Tryz.func96 λA C L X=>?_;have Y:=fz X.a;have Z:=mI X.a;obtain⟨i,q,d⟩:=lenOf w;cbv;refine X.call (Sc.2 (λp M=>(e.p p M).le) w λr hr=>?_);rw[<- hr]at h;refine p2 (λJ=>?_) (λJ=>?_)
 ·have J:A.not (A.eq r 0)=true:=J;rw[Y,Z]at J;exact h r (by rw[if_pos (yU J)])
 have J:A.not (A.eq r 0)=false:=J;rw[Y,Z]at J;rw[if_neg (yU J)]at h;clear J hr m;refine X.call (Uw w yO λy j=>?_);rw[<- s]at j;have u:A.len y=br vs.length:=gr X.a j;cbv;refine lu X (λk=>k<=i/\tp env vs 0 x.params=tp env vs k (x.params.drop k)) (λk=>i-k) 0 ⟨bD _,rfl⟩ (λ(k:Nat)=>[(7,.int .i64 k)]) ?_;rintro k ⟨hk,n⟩;cbv;constructor<;>intro h1
 ·have h5:k<x.params.length:=lY X.a d h1;have G:=(kB X.a w h5).2.2;have B:=iX X.a w h5;have z:=jX X.a h5;have b1:A.fU (br k) (A.len y):=by rw[u,X.a];simp only[SD];omega
  have b2:A.fU 0 (br k):=by rw[X.a];simp only[SD];omega
  have t:=e.p _ (bx h5);have o:A.part y 0 (br k)=bH encS (vs.take k):=by rw[X.a,j];have:=mi (f:=encS) (l:=vs) (a:=0) (b:=k);simpa using this
  rw[bM h5,tp]at n;clear h1;cbv;repeat' (first|apply bw|exact zf|(intro J;cbv)|apply bG|(refine X.call (Rx F v o (by rw[cZ];omega) t.le (bR t.sz yD) t.mF G λr2 g=>?_);cbv))
  all_goals try first|exact B|exact z|exact b1|exact b2
  all_goals (
   have g:r2=nu env (vs.take k) x.params[k].bound:=g;rw[<- g]at n)
  ·rw[Y,Z]at J;have h3:r2≠0:=yU J;rw[if_pos h3]at n;exact h r2 (by rw[n,if_pos h3])
  ·have J:A.not (A.eq r2 0)=false:=yA;rw[Y,Z]at J;rw[if_neg (yU J)]at n;exact⟨k+1,⟨yO,n⟩,yO,yc⟩
 ·have h5:k=i:=gY X.a d h1;rw[h5,q,bZ,tp]at n;rw[n,if_neg yD]at h;cbv;refine X.call (Rx F v j yO e.ty.le (bR e.ty.sz yD) e.ty.mF N λr2 g=>?_);cbv;exact h _ g
end
end Go.VC.cK
namespace Go.VC
def Rc.start{i:IF}{n:S}{l:List S}(h1:mj l)(J:∀e,e∈l↔qj i n e):Rc i n l 0:=⟨ic (λ{a b} h e=>by subst e;rw[fi]at h;cases h) h1,λs hs=>.one ((J s).1 hs),λe c=>(J e).2 c,yS⟩
end Go.VC
namespace Go.VC.cK
open Go Go.VC Go.Proofs
def TT{i:IF}(hi:i.ok)(fL:∀x∈i.types,x.lower.size<=1048576/\x.upper.size<=1048576){P:S}{c1 c2 M O:D}(hx:jN i P c1 c2 M O){n:S}{K:PV->List Ob->Prop}
 (h:∀l r,l.Nodup->(∀e,e∈l↔oP i n e)->l.length<=i.types.length->r=bH encS l->K (.row 9 0) [.row 9 r true]):
 FT 195 [] [mf P c1 c2 M O,.str n] K:=by
 obtain⟨N,I⟩:∃N,N=i.types.length:=⟨_,rfl⟩;have ag:N<=4294967295:=by rw[I];exact hi.nt
 refine eo Vr Tryz.func195 λA C L X=>?_;have Y:=fz X.a;cbv;refine X.call (TL hi fL hx λl0 r0 R T U=>?_);cbv;refine lP X (λy=>y.1<=y.2.1.length/\Rc i n y.2.1 y.1/\y.2.2=bH encS y.2.1) (λy=>N-y.1) (0,l0,r0) ⟨bD _,Rc.start R T,U⟩ [0,1] (λ(y:Nat×List S×D)=>⟨[(6,.int .i64 y.1),(5,.row 9 1),(2,.box 0 0)],[.box [.str P,.lst 45 c1,.lst 99 c2,.lst 141 M,.lst 152 O],.row 9 y.2.2 true]⟩) ?_;rintro⟨k,out,r⟩ ⟨hk,g,hr⟩;simp only at hk g hr;have w:out.length<=N:=by rw[I];exact g.len
 obtain⟨no,t⟩:∃no,no=out.length:=⟨_,rfl⟩;cbv;constructor<;>intro h1
 ·have v:Std.len r=br no:=by rw[hr,cT,t];rfl
  have h5:k<out.length:=lY X.a v h1;have p:=iX X.a hr h5;have ai:=jX X.a h5;have F:=jR X.a hr h5;clear h1;cbv;repeat' (first|apply bw|exact zf|(intro J;cbv)|apply bG|(refine X.call (TL hi fL hx λl Q V o E=>?_);cbv))
  any_goals exact p
  rw[F]at o;obtain⟨s,hs⟩:∃s,s=out[k]:=⟨_,rfl⟩;rw[<- hs]at o;clear F;obtain⟨m,z,c⟩:=lenOf E;have ae:l.length<=N:=by rw[I];exact kK (ic (λ{a b} h e=>by subst e;rw[fi]at h;cases h) V) λe d=>CS ((o e).1 d)
  refine lP X (λy=>y.1<=m/\Rc i n y.2.1 k/\y.2.1[k]? =some s/\(∀e∈l.take y.1,e∈y.2.1)/\y.2.2=bH encS y.2.1) (λy=>m-y.1) (0,out,r) ⟨bD _,g,by rw[hs,bB h5],yS,hr⟩ [0,1,2] (λ(y:Nat×List S×D)=>⟨[(8,.int .i64 y.1),(7,.row 9 2),(6,.int .i64 k),(5,.row 9 1),(2,.box 0 0)],[.box [.str P,.lst 45 c1,.lst 99 c2,.lst 141 M,.lst 152 O],.row 9 y.2.2 true,.row 9 Q true]⟩) ?_;clear g hr v p hs h5 hk w t;rintro⟨j,out,r⟩ ⟨hj,g,hs,f,hr⟩;simp only at hj g hs f hr;have w:out.length<=N:=by rw[I];exact g.len
  obtain⟨no,t⟩:∃no,no=out.length:=⟨_,rfl⟩
  have u:k<out.length:=by
   rcases cb k out.length with h|h
   ·exact h
   ·rw[bY h]at hs;cases hs
  have G:out[k]=s:=by rw[bB u]at hs;exact fF hs
  cbv;constructor<;>intro h1
  ·have h6:j<l.length:=lY X.a c h1;have F:=jR X.a E h6;have p:=iX X.a E h6;have H:=jX X.a h6;have ac:A.fU (A.add (A.len r) (A.len (A.lit [[.str (A.bL (A.cell Q (br j) 0))]]))) 4294967296:=by rw[X.a,hr];simp only[SD];omega
   have q1:A.app r (A.lit [[.str (A.bL (A.cell Q (br j) 0))]])=bH encS (out++[l[j]]):=by rw[F,X.a,hr];exact cx (k:=[l[j]])
   have ab:qj i out[k] l[j]:=by rw[G];exact(o _).1 (bx h6)
   clear h1;cbv;repeat' (first|apply bw|exact zf|(intro J;cbv)|apply bG)
   all_goals try exact p
   refine X.call (OX hr yO λb hb=>?_);cbv;repeat' (first|apply bw|exact zf|(intro J;cbv)|apply bG)
   any_goals exact p
   all_goals try exact H
   all_goals try exact ac
   ·have J:A.not b=true:=yA;have B:l[j]∉out:=by rw[Y]at J;rw[F]at hb;intro e;have hc:out.contains l[j]=true:=dr.2 e;have W:b=true:=hb.trans hc;rw[W]at J;cases J
    refine⟨(j+1,out++[l[j]],_),⟨?_,g.add u B ab,?_,?_,q1⟩,?_,[0,1,2],rfl,?_⟩
    ·simp only;omega
    ·simp only;rw[bU u];exact hs
    ·simp only;rw[bX h6];intro e d;rcases bJ.1 d with d|d
     ·simp[f e d]
     ·simp at d;subst d;simp
    ·simp only;omega
    exact yc
   ·have J:A.not b=false:=yA
    have B:l[j]∈out:=by
     rw[Y]at J;rw[F]at hb;have:b=true:=by simpa using J
     rw[this]at hb;exact dr.1 hb.symm
    refine⟨(j+1,out,r),⟨?_,g,hs,?_,hr⟩,?_,[0,1,2],rfl,?_⟩
    ·simp only;omega
    ·simp only;rw[bX h6];intro e d;rcases bJ.1 d with d|d
     ·exact f e d
     ·simp at d;subst d;exact B
    ·simp only;omega
    exact yc
  ·have h6:j=m:=gY X.a c h1;rw[h6,z,bF]at f;refine p1 ?_;exact⟨(k+1,out,r),⟨yP,g.next u (λe d=>f e ((o e).2 (by rw[<- G];exact d))),hr⟩,yP,[0,1],rfl,yc⟩
 ·have v:Std.len r=br no:=by rw[hr,cT,t];rfl
  have h5:k=out.length:=gY X.a v h1;rw[h5]at g;have q:=h out r g.nd g.fin (by rw[<- I];exact w) hr;cbv;exact q
end Go.VC.cK
namespace Go.VC
structure Gp (i:IF) (n:S) (l:List S) (k:Nat) (o:List S):Prop where
 Pe:mj o
 mem:∀s,s∈o↔s∈l.take k/\oP i s n
 len:o.length<=k
def Gp.nil{i:IF}{n:S}{l:List S}:Gp i n l 0 []:=⟨.nil,yS,yS⟩
def Gp.add{i:IF}{n:S}{l o:List S}{k:Nat}(h:Gp i n l k o)(hk:k<l.length)(hr:oP i l[k] n):Gp i n l (k+1) (lB l[k] o):=by
 refine⟨zp h.Pe,λs=>?_,?_⟩
 ·rw[vj,h.mem,bX hk,bJ,cU];constructor
  ·rintro(rfl|⟨a,b⟩)
   ·exact⟨.inr rfl,hr⟩
   ·exact⟨.inl a,b⟩
  ·rintro⟨a|rfl,b⟩
   ·exact .inr ⟨a,b⟩
   ·exact .inl rfl
 ·have:=zq (s:=l[k]) (l:=o);have:=h.len;omega
def Gp.skip{i:IF}{n:S}{l o:List S}{k:Nat}(h:Gp i n l k o)(hk:k<l.length)(hr:¬oP i l[k] n):Gp i n l (k+1) o:=by
 refine⟨h.Pe,λs=>?_,Nat.le_succ_of_le h.len⟩;rw[h.mem,bX hk,bJ,cU];constructor
 ·rintro⟨a,b⟩;exact⟨.inl a,b⟩
 ·rintro⟨a|rfl,b⟩
  ·exact⟨a,b⟩
  ·exact absurd b hr
def Gp.fin{i:IF}{n:S}{l o:List S}(h:Gp i n l l.length o)(hl:∀e,e∈l↔oP i n e):GM i n o:=⟨λs=>by rw[h.mem,bF,hl],ic (λ{a b} h e=>by subst e;rw[fi]at h;cases h) h.Pe,ic (λh=>vV h) h.Pe⟩
end Go.VC
namespace Go.VC.cK
open Go Go.VC Go.Proofs
def Xf{i:IF}(M:i.ok)(aa:i.types.length<=1048576)(fL:∀x∈i.types,x.lower.size<=1048576/\x.upper.size<=1048576){P:S}{c1 c2 I O:D}(T:jN i P c1 c2 I O){n c:S}(hc:c=n){K:PV->List Ob->Prop}
 (h:∀l r,GM i n l->r=bH encS l->K (.lst 9 r) []):
 FT 140 [] [mf P c1 c2 I O,.str c] K:=by
 subst hc;have H:=M.nt;refine en VJ Tryz.func140 λA C L X=>?_;cbv;refine X.call (TT M fL T λl W gV N U m=>?_);obtain⟨d,p,a⟩:=lenOf m;cbv;refine lP X (λy=>y.1<=d/\Gp i c l y.1 y.2.1/\y.2.2=bH encS y.2.1) (λy=>d-y.1) (0,[],A.lit []) ⟨bD _,Gp.nil,yX⟩ [0,1] (λ(y:Nat×List S×D)=>⟨[(7,.int .i64 y.1),(6,.row 9 1),(5,.lst 9 y.2.2),(2,.box 0 0),(1,.str c)],[.box [.str P,.lst 45 c1,.lst 99 c2,.lst 141 I,.lst 152 O],.row 9 W true]⟩) ?_;rintro⟨k,o,r⟩ ⟨hk,s,hr⟩;simp only at hk s hr;have V:=s.len;cbv;constructor<;>intro h1
 ·have h5:k<l.length:=lY X.a a h1;have w:=iX X.a m h5;have t:=jX X.a h5;have Q:=jR X.a m h5;have F:oP i c l[k]:=(N _).1 (bx h5);clear h1;refine p1 ?_;refine X.call (OX m yO λb hb=>?_);cbv;repeat' (first|apply bw|exact zf|(intro J;cbv)|apply bG)
  all_goals try exact w
  all_goals try exact t
  ·refine X.call (TT M fL T λl2 d2 R j z B=>?_);have j:∀e,e∈l2↔oP i l[k] e:=by rw[<- Q];exact j
   have G:l2.length<=4294967295:=bR z H;cbv;repeat' (first|apply bw|exact zf|(intro J;cbv)|apply bG|(refine X.call (OX B G λb2 u=>?_);cbv)|(refine X.call (BS Q hr yO λr2 E=>?_);cbv))
   all_goals try exact w
   all_goals try exact t
   ·have g:b2=true:=yA;have f:b2=l2.contains c:=u;have v:oP i l[k] c:=(j _).1 (dr.1 (f.symm.trans g));exact⟨(k+1,_,r2),⟨yP,s.add h5 v,E⟩,yP,[0,1],rfl,yc⟩
   ·have g:b2=false:=yA;have f:b2=l2.contains c:=u;have v:¬oP i l[k] c:=λe=>by have:=dr.2 ((j _).2 e);rw[<- f,g]at this;cases this
    exact⟨(k+1,o,r),⟨yP,s.skip h5 v,hr⟩,yP,[0,1],rfl,yc⟩
  ·have g:b=false:=yA;have f:b=l.contains c:=hb;have v:¬oP i l[k] c:=λe=>by have:=dr.2 ((N _).2 (F.trans e));rw[<- f,g]at this;cases this
   exact⟨(k+1,o,r),⟨yP,s.skip h5 v,hr⟩,yP,[0,1],rfl,yc⟩
 ·have h5:k=d:=gY X.a a h1;rw[h5,p]at s;have q:=h o r (s.fin N) hr;cbv;exact q
end Go.VC.cK
namespace Go.VC
section
variable {i:IF}{g:List S}{l:List Ty}{k:Nat}
def zu(i:IF)(g:List S):∀l k,js i g (l++k)=(js i g l&&js i g k)
 |[],k=>by rw[ep,js,fB]
 |t::l,k=>by rw[cO,js,zu i g l k,js,Bool.and_assoc]
def EN(h:k<l.length):js i g (l.take (k+1))=(js i g (l.take k)&&jF i g l[k]):=by rw[bX h,zu,js,js,qI]
def LH(h:k<l.length)(hf:jF i g l[k]=false):js i g l=false:=by rw[tL,oS,dZ];exact⟨l[k],bx h,by rw[hf];rfl⟩
def Jp(i:IF)(g:List S)(t:Ty):jF i g t=if t.k != 10 then true else if uT i g t then false else js i g t.ar:=by cases t;rw[jF];rfl
def pB(q:Ty×Pm):Bool:=q.1.k==9&&q.1.n==q.2.name
end
end Go.VC
namespace Go.VC.cK
open Go Go.VC Go.Proofs
section
variable {i:IF}{c:S}{a1 a2 a3 a4 a:D}{g:List S}
def T6(V:i.ok)(W:jN i c a1 a2 a3 a4)(Q:a=bH encS g)(I:g.length<=4294967295):
 ∀(t:Ty),Ty.le 4294967295 t->∀{r:Int}{c1 c2:S}{z y:D}{K:PV->List Ob->Prop},cD t r c1 c2 z y->(∀b,b=jF i g t->K (.bool b) [])->FT 141 [] [mf c a1 a2 a3 a4,.lst 9 a,df r c1 c2 z y] K:=by
 refine Ty.fC λt ih=>?_;intro x r c1 c2 z y K P h;obtain⟨F,T,O,p,U⟩:=P;rw[Jp]at h;have R:t.ar.length<=4294967295:=by cases x;assumption
 refine en VI Tryz.func141 λA C L X=>?_;have Y:=fz X.a;have Z:=mI X.a;obtain⟨j,n,d⟩:=lenOf p;by_cases f:r=10
 ·have gD:A.not (A.eq r 10)=false:=by rw[Y,Z,f];rfl
  have hk:(t.k != 10)=false:=by rw[<- F,f];rfl
  rw[hk,if_neg yD]at h;have o:uT i g t=(match fu i c1 c2 with|some e=>g.contains e|none=>false):=by unfold uT;rw[<- F,f,<-T,<-O];rfl
  cbv;repeat' (first|apply bw|exact zf|(intro J;first|exact yB gD J|cbv)|apply bG|(refine X.call (Q8 V W λe b hb M=>?_);cbv)|(refine X.call (OX Q I λb2 w=>?_);cbv))
  ·have h1:b=true:=yA;refine h _ ?_;rw[o,M h1];simp only;rw[if_pos (w.symm.trans J)]
  all_goals (
   have u:uT i g t=false:=by
    rw[o]
    first
     |(have h1:b=true:=yA
       rw[M h1];exact w.symm.trans yA)
     |(have h1:b=false:=yA
       rw[h1]at hb;have hn:fu i c1 c2=none:=yU hb.symm;rw[hn])
   rw[u,if_neg yD]at h;clear u o;refine lp X (λk=>k<=j/\js i g (t.ar.take k)=true) (λk=>j-k) 0 ⟨bD _,rfl⟩ (λ(k:Nat)=>⟨[(9,.int .i64 k),(5,.box 1 0),(3,.box 0 0),(1,.lst 9 a)],[.box [.str c,.lst 45 a1,.lst 99 a2,.lst 141 a3,.lst 152 a4],.box [.int .i64 r,.str c1,.str c2,.lst 29 z,.lst 42 y]]⟩) ?_;rintro k ⟨hk,E⟩;cbv;constructor<;>intro h1
   ·have h5:k<t.ar.length:=lY X.a d h1;have N:=gI X.a p h5;have H:=iX X.a p h5;have G:=jX X.a h5;have v:t.ar[k]∈t.dP:=by simp[Ty.dP]
    have s:=EN (i:=i) (g:=g) h5;rw[E,fB]at s;clear h1;cbv;repeat' (first|apply bw|exact zf|(intro J;cbv)|apply bG)
    all_goals try exact H
    refine X.call (ih _ v (gP x _ v) N λB m=>?_);have m:B=jF i g t.ar[k]:=m;cbv;repeat' (first|apply bw|exact zf|(intro J;cbv)|apply bG)
    all_goals try exact G
    ·have J:A.not B=true:=yA;rw[Y,m]at J;refine h _ ?_;rw[LH h5 (yU J)]
    ·have J:A.not B=false:=yA;rw[Y,m]at J;exact⟨k+1,⟨yO,by rw[s];simpa using J⟩,yO,yc⟩
   ·have h5:k=j:=gY X.a d h1;rw[h5,n,bF]at E;have q:=h true E.symm;cbv;exact q)
 ·have gD:A.not (A.eq r 10)=true:=by rw[Y,Z];simpa using f
  have hk:(t.k != 10)=true:=by rw[<- F];simpa using f
  rw[hk,if_pos rfl]at h;have q:=h true rfl;cbv;repeat' (first|apply bw|exact zf|(intro J;first|exact yB gD J|cbv)|apply bG)
  exact q
def T5(hi:i.ok)(hx:jN i c a1 a2 a3 a4)(hg:a=bH encS g)(ah:g.length<=4294967295){ps:List Pm}{F:D}(V:F=bH ew ps):
 ∀(t:Ty),Ty.le 4294967295 t->t.size<=4294967295->∀{N:Int}{c1 c2:S}{w c4:D}{K:PV->List Ob->Prop},cD t N c1 c2 w c4->(∀b,b=nW i g ps t->K (.bool b) [])->FT 142 [] [mf c a1 a2 a3 a4,.lst 9 a,.lst 56 F,df N c1 c2 w c4] K:=by
 refine Ty.fC λt ih=>?_;intro y hs N c1 c2 w c4 K ht h;obtain⟨B,R⟩:=oY hs;have ac:=ht;obtain⟨t0,t1,t2,z,aq⟩:=ac;rw[HH]at h;have an:t.ar.length<=4294967295:=by cases y;assumption
 refine en VH Tryz.func142 λA C L X=>?_;have Y:=fz X.a;have Z:=mI X.a;have W:=Dg X.a;obtain⟨s,G,n⟩:=lenOf z;obtain⟨aj,ae,T⟩:=lenOf V;have x:uT i g t=(t.k==10&&match fu i c1 c2 with|some e=>g.contains e|none=>false):=by unfold uT;rw[<- t1,<-t2];rfl
 have gD:A.eq N 10=(t.k==10):=by rw[Z,t0]
 cbv;repeat' (first|apply bw|exact zf|(intro J;cbv)|apply bG|(refine X.call (Q8 hi hx λe b hb he=>?_);cbv)|(refine X.call (OX hg ah λb2 H=>?_);cbv))
 ·have h1:A.eq N 10=true:=yA;have J:b=true:=yA;have h3:b2=true:=yA;have h4:A.not (A.eq (A.len w) (A.len F))=true:=yA;have P:uT i g t=true:=by rw[x,<-gD,h1,he J];exact H.symm.trans h3
  refine h _ ?_;have hl:¬t.ar.length=ps.length:=by rw[Y,Z,gr X.a z,gr X.a V]at h4;intro e;rw[e]at h4;simp at h4
  unfold qq uA;rw[P,decide_eq_false hl];rfl
 rotate_left
 rotate_left
 rotate_left
 rotate_left
 ·have h1:A.eq N 10=true:=yA;have J:b=true:=yA;have h3:b2=true:=yA;have h4:A.not (A.eq (A.len w) (A.len F))=false:=yA;have P:uT i g t=true:=by rw[x,<-gD,h1,he J];exact H.symm.trans h3
  have hl:t.ar.length=ps.length:=by rw[Y,Z,gr X.a z,gr X.a V]at h4;have h5:(br t.ar.length==br ps.length)=true:=yU h4;have:=eq_of_beq h5;simp only[bz]at this;omega
  have I:qq i g ps t=(t.ar.zip ps).all pB:=by unfold qq uA;rw[P,decide_eq_true hl];rfl
  have U:(t.ar.zip ps).length=t.ar.length:=by rw[BW,hl,JN]
  refine lu X (λk=>k<=s/\((t.ar.zip ps).take k).all pB=true) (λk=>s-k) 0 ⟨bD _,rfl⟩ (λ(k:Nat)=>[(11,.int .i64 k)]) ?_;rintro k ⟨hk,r⟩;cbv;constructor<;>intro h1
  ·have h5:k<t.ar.length:=lY X.a n h1;have h6:k<ps.length:=yO;have h7:k<(t.ar.zip ps).length:=yO;have O:=gI X.a z h5;have k2:=Aj X.a V h6;have M:=iX X.a z h5;have Q:=iX X.a V h6;have v:=jX X.a h5;have hz:(t.ar.zip ps)[k]=(t.ar[k],ps[k]):=List.getElem_zip;have e1:A.not (A.eq (A.asInt (A.cell w (br k) 0)) 9)= !(t.ar[k].k==9):=by rw[Y,Z,O.1]
   have e2:A.not (A.seq (A.bL (A.cell w (br k) 2)) (A.bL (A.cell F (br k) 0)))= !(t.ar[k].n==ps[k].name):=by rw[Y,W,O.2.2.1,k2.1]
   have hf:pB (t.ar[k],ps[k])=false->K (.bool false) []:=λe=>h _ (by rw[I,all_false h7 (by rw[hz];exact e)];rfl);have hg:pB (t.ar[k],ps[k])=true->((t.ar.zip ps).take (k+1)).all pB=true:=λe=>pA h7 r (by rw[hz];exact e);clear h1;cbv;repeat' (first|apply bw|exact zf|(intro J;cbv)|apply bG)
   all_goals try first|exact M|exact Q|exact v
   all_goals first
    |(refine hf ?_
      have g2:A.not (A.eq (A.asInt (A.cell w (br k) 0)) 9)=true:=yA;rw[e1]at g2;unfold pB;simp at g2;simp[g2];done)
    |(refine hf ?_
      have g2:A.not (A.seq (A.bL (A.cell w (br k) 2)) (A.bL (A.cell F (br k) 0)))=true:=yA;rw[e2]at g2;unfold pB;simp at g2;simp[g2];done)
    |(have g1:A.not (A.eq (A.asInt (A.cell w (br k) 0)) 9)=false:=yA
      have g2:A.not (A.seq (A.bL (A.cell w (br k) 2)) (A.bL (A.cell F (br k) 0)))=false:=yA;rw[e1]at g1;rw[e2]at g2;exact⟨k+1,⟨yO,hg (by unfold pB;simp at g1 g2;simp[g1,g2])⟩,yO,yc⟩)
    |skip
  have h5:k=s:=gY X.a n h1;rw[h5,G,<-U,bF]at r;have hR:qq i g ps t=true:=I.trans r;clear h1 hk h5 r I U hl P;cbv;clear x gD;refine X.call (PF y R ht λrp o=>?_);obtain⟨f,p,d⟩:=lenOf o;cbv;refine lu X (λk=>k<=f/\(t.dP.take k).all (nW i g ps)=true) (λk=>f-k) 0 ⟨bD _,rfl⟩ (λ(k:Nat)=>[(13,.int .i64 k)]) ?_;rintro k ⟨hk,r⟩;cbv;constructor<;>intro h1
  ·have h5:k<t.dP.length:=lY X.a d h1;have O:=gI X.a o h5;have M:=iX X.a o h5;have v:=jX X.a h5;have j:=bx h5;clear h1;refine p1 ?_;refine X.call (ih _ j (gP y _ j) (B _ j) O λE m=>?_);have m:E=nW i g ps t.dP[k]:=m;cbv;repeat' (first|apply bw|exact zf|(intro J;cbv)|apply bG)
   all_goals try exact v
   ·have J:A.not E=true:=yA;rw[Y,m]at J;refine h _ ?_;have:(t.dP.any λu=> !nW i g ps u)=true:=by rw[dZ];exact⟨_,j,J⟩
    rw[this];simp
   ·have J:A.not E=false:=yA;rw[Y,m]at J;exact⟨k+1,⟨yO,pA h5 r (yU J)⟩,yO,yc⟩
  ·have h5:k=f:=gY X.a d h1;rw[h5,p,bF]at r
   have q:=h true (by
    rw[hR,fB];have:(t.dP.any λu=> !nW i g ps u)=false:=by rw[gS];intro u hu;rw[dk.1 r u hu];decide
    rw[this];rfl)
   cbv;exact q
 all_goals (
  have hR:qq i g ps t=true:=by
   have P:uT i g t=false:=by
    rw[x,<-gD]
    first
     |(have h1:b2=false:=yA
       have J:b=true:=yA;rw[he J];have h3:g.contains e=false:=H.symm.trans h1;simp only[h3,fb])
     |(have J:b=false:=yA
       rw[J]at hb;have hn:fu i c1 c2=none:=yU hb.symm;rw[hn,fb])
     |(have J:A.eq N 10=false:=yA
       rw[J,fH])
   unfold qq;rw[P];rfl
  clear x gD;refine X.call (PF y R ht λrp o=>?_);obtain⟨f,p,d⟩:=lenOf o;cbv;refine lu X (λk=>k<=f/\(t.dP.take k).all (nW i g ps)=true) (λk=>f-k) 0 ⟨bD _,rfl⟩ (λ(k:Nat)=>[(13,.int .i64 k)]) ?_;rintro k ⟨hk,r⟩;cbv;constructor<;>intro h1
  ·have h5:k<t.dP.length:=lY X.a d h1;have O:=gI X.a o h5;have M:=iX X.a o h5;have v:=jX X.a h5;have j:=bx h5;clear h1;refine p1 ?_;refine X.call (ih _ j (gP y _ j) (B _ j) O λE m=>?_);have m:E=nW i g ps t.dP[k]:=m;cbv;repeat' (first|apply bw|exact zf|(intro J;cbv)|apply bG)
   all_goals try exact v
   ·have J:A.not E=true:=yA;rw[Y,m]at J;refine h _ ?_;have:(t.dP.any λu=> !nW i g ps u)=true:=by rw[dZ];exact⟨_,j,J⟩
    rw[this];simp
   ·have J:A.not E=false:=yA;rw[Y,m]at J;exact⟨k+1,⟨yO,pA h5 r (yU J)⟩,yO,yc⟩
  ·have h5:k=f:=gY X.a d h1;rw[h5,p,bF]at r
   have q:=h true (by
    rw[hR,fB];have:(t.dP.any λu=> !nW i g ps u)=false:=by rw[gS];intro u hu;rw[dk.1 r u hu];decide
    rw[this];rfl)
   cbv;exact q)
end
end Go.VC.cK
namespace Go.VC
def Ix{env:List IF}{m n:S}(h:(dD env m n).2.2≠0):(dD env m n).1.params=[]:=by
 unfold dD at h ⊢;cases c:ib env 65 m n with
 |wO a b x=>rw[c]at h;exact absurd rfl h
 |_=>rfl
def JF(env:List IF)(x:S)(a:Int)(ps:List Pm)(l:List Ty):BB:=if a=10 then my env x ps 0 l else mr env x l
def JE{env:List IF}{x:S}{a:Int}{ps:List Pm}{l:List Ty}{i:Nat}(h:i<l.length):JF env x a ps (l.take (i+1))=ub (JF env x a ps (l.take i)) (if a=10 then Ca (varOf ps i) (nh env x l[i])else nh env x l[i]):=by
 unfold JF;split
 ·exact Bf h
 ·exact Bc h
end Go.VC
namespace Go.VC.cK
open Go Go.VC Go.Proofs
def WN{env:List IF}{de:D}{x:S}(he:de=bH dC env)(aH:dW env):
 ∀(t:Ty),Ty.le 4294967295 t->(∀u∈t.all,u.k=10->u.fl=[])->∀{j:Int}{c1 c2:S}{c3 c4:D}{K:PV->List Ob->Prop},cD t j c1 c2 c3 c4->(∀a b,(a,b)=nh env x t->K (.tup [.bool a,.bool b]) [])->FC Tryz.prog tt 194 [] [.lst 51 de,df j c1 c2 c3 c4,.str x] K:=by
 refine Ty.fC λt ih=>?_;intro ai ad j c1 c2 c3 c4 K ht h;obtain⟨t0,t1,t2,E,ab⟩:=ht;rw[KW,<-t0,<-t1,<-t2]at h;have aw:t.ar.length<=4294967295:=by cases ai;assumption
 have ax:t.fl.length<=4294967295:=by cases ai;assumption
 have ae:∀i (I:i<t.ar.length),t.ar[i]∈t.dP:=λi I=>by simp[Ty.dP]
 have aa:∀i (I:i<t.fl.length),t.fl[i].t∈t.dP:=λi I=>by simp only[Ty.dP,bJ,bT];exact .inr ⟨_,bx I,rfl⟩
 have h0:j=10->t.fl=[]:=λe=>ad t (ji t) (by rw[<- t0];exact e);have O:∀u∈t.dP,∀v∈u.all,v.k=10->v.fl=[]:=λu hu v hv=>ad v (lU hu hv);have aj:∀u∈t.dP,Ty.le 4294967295 u:=λu hu=>gP ai u hu;clear ad ai;refine FC.enter (G:=cf 129) eX mixed ⟨Tryz.func194,by rfl,rfl⟩ rfl rfl rfl ?_;intro A C L X;have Y:=fz X.a;have Z:=mI X.a;have ag:=Dg X.a;have da:=Dh X.a;obtain⟨k,am,F⟩:=lenOf E;obtain⟨l,al,z⟩:=lenOf ab;by_cases h9:j=9
 ·have e9:A.eq j 9=true:=by rw[Z,h9];rfl
  rw[if_pos h9]at h;have q:=h _ _ rfl;rw[<- ag]at q;cbv;repeat' (first|apply bw|exactλ(_:FF)=>by kernel_rfl|(intro J;first|exact absurd ((e9).symm.trans J) (by decide)|cbv)|apply bG)
  exact q
 rw[if_neg h9]at h;have e9:A.eq j 9=false:=by rw[Z];simpa using h9
 cbv;repeat' (first|apply bw|exactλ(_:FF)=>by kernel_rfl|(intro J;first|exact absurd ((e9).symm.trans J) (by decide)|cbv)|apply bG|(refine X.call (TF he aH λw0 w1 w2 w3 w4 w5 w6 w7 w8 w9 aL aI r1 r2 hx aG av=>?_);cbv))
 obtain⟨ps,ah⟩:∃ps,ps=(dD env c1 c2).1.params:=⟨_,rfl⟩;have B:w1=bH ew ps:=by rw[ah];exact hx.2.1
 have hz:r2≠0->ps=[]:=λe=>by rw[ah];exact Ix (by rw[<- av];exact e)
 rw[<- ah]at h;clear ah hx aG av;obtain⟨o,N⟩:∃o:Nat->BB,o=λi=>JF env x j ps (t.ar.take i):=⟨_,rfl⟩;have a0:o 0=(false,false):=by rw[N];simp only[JF,j5,my,mr];split<;>rfl
 have W:∀i (I:i<t.ar.length),o (i+1)=ub (o i) (if j=10 then Ca (varOf ps i) (nh env x t.ar[i])else nh env x t.ar[i]):=λi I=>by rw[N];exact JE I
 have an:∀a b,(a,b)=ub (o t.ar.length) (mw env x (j==8) t.fl)->K (.tup [.bool a,.bool b]) []:=λa b e=>h a b (by
  rw[e,N];simp only[JF,bF];split
  ·rename_i gD;rw[h0 gD,mw,wj]
  ·rfl)
 clear N h
 refine X.loop (λ(y:Nat×BB)=>⟨[(13,.int .i64 y.1),(12,.bool y.2.2),(11,.bool y.2.1),(10,.int .i64 r2),(8,.box 1 0),(4,.box 0 0),(0,.lst 51 de),(2,.str x)],[.box [.int .i64 j,.str c1,.str c2,.lst 29 c3,.lst 42 c4],.box [.str w0,.lst 56 w1,.int .i64 w2,.str w3,.str w4,.lst 29 w5,.lst 42 w6,.int .i64 w7,.str w8,.str w9,.lst 29 aL,.lst 42 aI]]⟩)
  (λy=>y.1<=k/\y.2=o y.1) (λy=>k-y.1) (0,(false,false)) ⟨bD _,a0.symm⟩ ?_ ?_
 ·(cbv;repeat' apply bw);all_goals try first|trivial|rfl|(rw[X.a];rfl)
 rintro⟨i,p,n⟩ ⟨I,d⟩;simp only at I d;cbv;refine⟨λh1=>?_,λh1=>?_⟩
 ·have h5:i<t.ar.length:=by obtain rfl:=X.a;simp only[F,SD,dq]at h1;omega
  have k1:=gI X.a E h5;have R:A.idx (br i) (A.len c3):=by rw[X.a,E];exact cP h5
  have M:A.inr .i64 (A.add (br i) 1):=by rw[X.a];exact ek h5 (by omega)
  have c:=W i h5;rw[<- d]at c;have an:A.len w1=br ps.length:=gr X.a B
  have H:A.lt (br i) (A.len w1)=true->A.idx (br i) (A.len w1)/\varOf ps i=A.asInt (A.cell w1 (br i) 1):=λe=>by
   have h6:i<ps.length:=by rw[da,an]at e;have:=of_decide_eq_true e;simp only[bz]at this;omega
   refine⟨by rw[X.a,B];exact cP h6,?_⟩;rw[(Aj X.a B h6).2,varOf,bB h6]
  have U:A.lt (br i) (A.len w1)=false->varOf ps i=2:=λe=>by
   have h6:ps.length<=i:=by rw[da,an]at e;have:=of_decide_eq_false e;simp only[bz]at this;omega
   rw[varOf,bY h6]
  have T:A.eq r2 0=false->varOf ps i=2:=λe=>by rw[Z]at e;rw[varOf,hz (by simpa using e)];rfl
  have Rv:A.eq 2 0=false:=by rw[Z];rfl
  have ao:A.eq 2 1=false:=by rw[Z];rfl
  have V:A.not (A.eq 2 0)=true:=by rw[Y,Rv];rfl
  obtain⟨v,hv⟩:∃v,v=varOf ps i:=⟨_,rfl⟩;rw[<- hv]at c H U T;clear h1 hz an;cbv;repeat' (first|apply bw|exactλ(_:FF)=>by kernel_rfl|(intro J;cbv)|apply bG)
  any_goals exact R
  refine X.call (ih _ (ae i h5) (aj _ (ae i h5)) (O _ (ae i h5)) k1 λa b r=>?_);have ac:(a,b)=nh env x t.ar[i]:=r;rw[<- ac]at c;obtain⟨⟨u,w⟩,m⟩:∃q:BB,q=o (i+1):=⟨_,rfl⟩;rw[<- m]at c;have ay:∀u' w':Bool,u'=u->w'=w->True:=λ_ _ _ _=>trivial;have f:i+1<=k:=by omega
  have g:k-(i+1)<k-i:=by omega
  clear ih an h0 W aj O ae aa ax aw ab ay ac r k1 d hv t0 t1 t2;by_cases Q:j=10
  ·have gD:A.eq j 10=true:=by rw[Z,Q];rfl
   rw[if_pos Q]at c;have hu:u=(p||(Ca v (a,b)).1):=congrArg Prod.fst c;have hw:w=(n||(Ca v (a,b)).2):=congrArg Prod.snd c;clear c;cbv;repeat' (first|apply bw|exactλ(_:FF)=>by kernel_rfl|(intro J;first|exact absurd ((gD).symm.trans J) (by decide)|exact absurd ((Rv).symm.trans J) (by decide)|exact absurd ((ao).symm.trans J) (by decide)|exact absurd ((V).symm.trans J) (by decide)|cbv)|apply bG)
   all_goals try first|exact M|exact(H (by assumption)).1
   all_goals (
    refine⟨(i+1,u,w),⟨f,m⟩,g,?_⟩;clear m f g R M Rv V ao gD e9 h9 Q
    first
     |(have ev:v=A.asInt (A.cell w1 (br i) 1):=(H (by assumption)).2
       have aJ:A.eq (A.asInt (A.cell w1 (br i) 1)) 1=(v==1):=by rw[Z,ev]
       have aE:A.eq (A.asInt (A.cell w1 (br i) 1)) 0=(v==0):=by rw[Z,ev]
       clear H U T ev E B he;simp only[dq,Y,aJ,aE]at *)
     |(have ev:v=2:=U (by assumption)
       subst ev;clear H U T E B he)
     |(have ev:v=2:=T (by assumption)
       subst ev;clear H U T E B he)
    (cbv;repeat' apply bw);all_goals try first|trivial|rfl|(rw[X.a];rfl)
    all_goals (clear X Z Y ag da;(try simp only[dq,Ca]at *);simp_all;done))
  ·have gD:A.eq j 10=false:=by rw[Z];simpa using Q
   rw[if_neg Q]at c;have hu:u=(p||a):=congrArg Prod.fst c;have hw:w=(n||b):=congrArg Prod.snd c;clear c;cbv;repeat' (first|apply bw|exactλ(_:FF)=>by kernel_rfl|(intro J;first|exact absurd ((gD).symm.trans J) (by decide)|cbv)|apply bG)
   all_goals try exact M
   all_goals (
    refine⟨(i+1,u,w),⟨f,m⟩,g,?_⟩;clear m f g R M Rv V ao gD e9 h9 Q H U T E B he
    (cbv;repeat' apply bw);all_goals try first|trivial|rfl|(rw[X.a];rfl)
    all_goals (clear X Z Y ag da;(try simp only[dq]at *);simp_all;done))
 ·have h5:i=k:=by obtain rfl:=X.a;simp only[F,SD,dq]at h1;omega
  rw[h5,am]at d;clear h1 I h5 W a0;obtain⟨s,P⟩:∃s:Nat->BB,s=λi=>ub (o t.ar.length) (mw env x (j==8) (t.fl.take i)):=⟨_,rfl⟩;have b0:s 0=(p,n):=by rw[P,d];simp only[j5,mw,wj]
  have ak:∀i (I:i<t.fl.length),s (i+1)=ub (s i) (if(j==8)=true then((nh env x t.fl[i].t).2,(nh env x t.fl[i].t).1)else nh env x t.fl[i].t):=λi I=>by rw[P];simp only;rw[Be I,ng]
  have bn:∀a b,(a,b)=s t.fl.length->K (.tup [.bool a,.bool b]) []:=λa b e=>an a b (by rw[e,P];simp only[bF]);clear P an d;cbv
  refine X.loop (λ(y:Nat×BB)=>⟨[(17,.int .i64 y.1),(12,.bool y.2.2),(11,.bool y.2.1),(4,.box 0 0),(0,.lst 51 de),(2,.str x)],[.box [.int .i64 j,.str c1,.str c2,.lst 29 c3,.lst 42 c4]]⟩)
   (λy=>y.1<=l/\y.2=s y.1) (λy=>l-y.1) (0,(p,n)) ⟨bD _,b0.symm⟩ ?_ ?_
  ·(cbv;repeat' apply bw);all_goals try first|trivial|rfl|(rw[X.a];rfl)
  clear b0;rintro⟨i,p,n⟩ ⟨I,d⟩;simp only at I d;cbv;refine⟨λh1=>?_,λh1=>?_⟩
  ·have h5:i<t.fl.length:=by obtain rfl:=X.a;simp only[z,SD,dq]at h1;omega
   have k1:=kE X.a ab h5;have R:A.idx (br i) (A.len c4):=by rw[X.a,ab];exact cP h5
   have M:A.inr .i64 (A.add (br i) 1):=by rw[X.a];exact ek h5 (by omega)
   have c:=ak i h5;rw[<- d]at c;clear h1 hz;cbv;repeat' (first|apply bw|exactλ(_:FF)=>by kernel_rfl|(intro J;cbv)|apply bG)
   any_goals exact R
   refine X.call (ih _ (aa i h5) (aj _ (aa i h5)) (O _ (aa i h5)) k1 λa b r=>?_);have ac:(a,b)=nh env x t.fl[i].t:=r;rw[<- ac]at c;obtain⟨⟨u,w⟩,m⟩:∃q:BB,q=s (i+1):=⟨_,rfl⟩;rw[<- m]at c;have f:i+1<=l:=by omega
   have g:l-(i+1)<l-i:=by omega
   clear ih bn h0 ak aj O ae aa ax aw ab ac r k1 d t0 t1 t2;have e8:A.eq j 8=(j==8):=by rw[Z]
   cbv;repeat' (first|apply bw|exactλ(_:FF)=>by kernel_rfl|(intro J;cbv)|apply bG)
   all_goals try exact M
   all_goals (
    refine⟨(i+1,u,w),⟨f,m⟩,g,?_⟩;have hu:u=(p||(if(j==8)=true then(b,a)else(a,b)).1):=congrArg Prod.fst c;have hw:w=(n||(if(j==8)=true then(b,a)else(a,b)).2):=congrArg Prod.snd c;clear c m f g R M e9 h9 E B he
    (cbv;repeat' apply bw);all_goals try first|trivial|rfl|(rw[X.a];rfl)
    all_goals (clear X Z Y ag da;(try simp only[dq,e8]at *);simp_all;done))
  ·have h5:i=l:=by obtain rfl:=X.a;simp only[z,SD,dq]at h1;omega
   rw[h5,al]at d;have q:=bn p n d;cbv;repeat' (first|apply bw|exactλ(_:FF)=>by kernel_rfl|(intro J;cbv)|apply bG)
   exact q
def SV:eE:={tt:=tt,n:=64,gK:=VK.gK,own:=[11]}
def T7{env:List IF}{F j:D}(R:F=bH dC env)(E:dW env){ps:List Pm}(v:j=bH ew ps)(O:ps.length<=1048576){t:Ty}(G:Ty.le 4294967295 t)(z:∀u∈t.all,u.k=10->u.fl=[]){M:Int}{c1 c2:S}{B I:D}{K:PV->List Ob->Prop}(P:cD t M c1 c2 B I)
 (h:∀b,b=iU env t [] ps->K (.bool b) []):FT 139 [] [.lst 51 F,.lst 56 j,df M c1 c2 B I] K:=by
 refine en SV Tryz.func139 λA C L X=>?_;have Z:=mI X.a;obtain⟨e,l,c⟩:=lenOf v;cbv;refine lP X (λy=>y.1<=e/\y.2.1.length<=y.1/\y.2.2=bH encS y.2.1/\iU env t [] ps=iU env t y.2.1 (ps.drop y.1)) (λy=>e-y.1) (0,[],A.lit []) ⟨bD _,ca _,yX,rfl⟩ [0,1] (λ(y:Nat×List S×D)=>⟨[(8,.int .i64 y.1),(7,.row 9 1),(5,.box 0 0),(1,.lst 56 j),(0,.lst 51 F)],[.box [.int .i64 M,.str c1,.str c2,.lst 29 B,.lst 42 I],.row 9 y.2.2 true]⟩) ?_;rintro⟨i,seen,r⟩ ⟨Q,p,hr,d⟩;simp only at Q p hr d;cbv;constructor<;>intro h1
 ·have h5:i<ps.length:=lY X.a c h1;obtain⟨n,N⟩:=Aj X.a v h5;have m:=iX X.a v h5;have x:=jX X.a h5;have H:A.fU (A.add (A.len r) (A.len (A.lit [[.str (A.bL (A.cell j (br i) 0))]]))) 4294967296:=by rw[X.a,hr];simp only[SD];omega
  have s:A.app r (A.lit [[.str (A.bL (A.cell j (br i) 0))]])=bH encS (seen++[ps[i].name]):=by rw[n,X.a,hr];exact cx (k:=[ps[i].name])
  rw[bM h5,iU]at d;have w:A.eq (A.asInt (A.cell j (br i) 1)) 0=(ps[i].var==0):=by rw[Z,N]
  have o:A.eq (A.asInt (A.cell j (br i) 1)) 1=(ps[i].var==1):=by rw[Z,N]
  clear h1;refine p1 ?_;refine X.call (WN R E t G z P λa b f=>?_);have f:(a,b)=nh env ps[i].name t:=by rw[<- n];exact f
  rw[<- f]at d;clear f;cbv;repeat' (first|apply bw|exact zf|(intro J;cbv)|apply bG)
  all_goals try exact m
  refine X.call (OX hr yO λb2 g=>?_);have g:b2=List.elem ps[i].name seen:=by rw[<- n];exact g
  rw[<- g]at d;clear g;cbv;repeat' (first|apply bw|exact zf|(intro J;cbv)|apply bG)
  all_goals try first|exact m|exact x|exact H
  all_goals simp only[dq,w,o]at*
  all_goals first
   |(have g1:b2=true:=yA
     rw[if_pos g1]at d;refine⟨(i+1,seen,r),⟨?_,?_,hr,d⟩,?_,[0,1],rfl,?_⟩
     ·simp only;omega
     ·simp only;omega
     ·simp only;omega
     exact yc)
   |(have g1:b2=false:=yA
     rw[if_neg (by rw[g1];decide)]at d;refine h _ ?_;rw[d];clear d h s hr;simp_all;done)
   |(have g1:b2=false:=yA
     rw[if_neg (by rw[g1];decide)]at d;refine⟨(i+1,seen++[ps[i].name],_),⟨?_,?_,s,?_⟩,?_,[0,1],rfl,?_⟩
     ·simp only;omega
     ·simp only[bE,bS,cH];omega
     ·rw[d];clear d h s hr;simp_all;done
     ·simp only;omega
     exact yc)
   |skip
 ·have h5:i=e:=gY X.a c h1;rw[h5,l,bZ]at d;have q:=h true (by rw[d];rfl);cbv;exact q
end Go.VC.cK
namespace Go.VC
def Nj{u:Ty}(h:qp u=0)(hk:u.k=10):u.fl=[]:=by
 unfold qp at h;cases hs:gz u with
 |false=>rw[hs]at h;simp at h
 |true=>
  unfold gz at hs;split at hs
  ·cases hs
  ·rw[hk]at hs;simp at hs;exact hs
def Ho{env:List IF}{vs:List S}{t:Ty}(h:nu env vs t=0):∀u∈t.all,u.k=10->u.fl=[]:=by
 have h1:=(Dr.1 h).1;unfold CW at h1;split at h1
 ·cases h1
 ·intro u hu;exact Nj (rJ.1 h1 _ (bT.2 ⟨u,hu,rfl⟩))
end Go.VC
namespace Go.VC.cK
open Go Go.VC Go.Proofs
def UX:eE:={tt:=tt,n:=116,xz:=[73,74]}
def Zo{env:List IF}{de:D}(he:de=bH dC env)(z:dW env){i:IF}(y:i.fit){a0:S}{a1 a2 a3 a4:D}(o:jN i a0 a1 a2 a3 a4){x:TE}(a:x.fit)
 {e0:S}{e1:D}{e2:Int}{e3 e4:S}{e5 e6:D}{e7:Int}{e8 e9:S}{gD nZ:D} (hx:oA x e0 e1 e2 e3 e4 e5 e6 e7 e8 e9 gD nZ) {K:PV->List Ob->Prop} (h:∀r:Int,r=nU env i x->K (.int .i64 r) []):
 FT 95 [] [.lst 51 de,mf a0 a1 a2 a3 a4,tv e0 e1 e2 e3 e4 e5 e6 e7 e8 e9 gD nZ] K:=by
 obtain⟨x0,Q,u,v⟩:=hx;have V:=a.np;obtain⟨vs,B⟩:∃vs,vs=x.params.map Pm.name:=⟨_,rfl⟩;have ai:vs.length=x.params.length:=by rw[B];simp
 have E:ij jW x.params=ij (lG true) x.params:=by
  have:lG true=jW:=by funext p;rfl
  rw[this]
 unfold nU at h;rw[<- B,E]at h;refine en UX Tryz.func95 λA C L X=>?_;have Y:=fz X.a;have Z:=mI X.a;cbv;refine X.call (Sc.1 (λp hp=>(a.p p hp).le) Q λr hr=>?_);rw[<- hr]at h;refine p2 (λJ=>?_) (λJ=>?_)
 ·have J:A.not (A.eq r 0)=true:=J;rw[Y,Z]at J;exact h r (by rw[if_pos (yU J)])
 have J:A.not (A.eq r 0)=false:=J;rw[Y,Z]at J;rw[if_neg (yU J)]at h;clear J hr E;refine X.call (Uw Q yO λdv w=>?_);rw[<- B]at w;cbv;refine X.call (Rx he z w yO a.lo.le (bR a.lo.sz yD) a.lo.mF u λU O=>?_);refine p2 (λJ=>?_) (λJ=>?_)
 ·have J:A.not (A.eq U 0)=true:=J;rw[Y,Z]at J;have h3:U≠0:=yU J;exact h U (by rw[fT,<-O,if_neg h3,if_pos h3])
 have J:A.not (A.eq U 0)=false:=J;rw[Y,Z]at J;have W:U=0:=yU J;have P:nu env vs x.lower=0:=by rw[<- O,W]
 rw[fT,P,if_pos rfl,fT]at h;clear J O W;refine X.call (Rx he z w yO a.up.le (bR a.up.sz yD) a.up.mF v λr2 H=>?_);refine p2 (λJ=>?_) (λJ=>?_)
 ·have J:A.not (A.eq r2 0)=true:=J;rw[Y,Z]at J;have h3:r2≠0:=yU J;exact h r2 (by rw[<- H,if_neg h3,if_pos h3])
 have J:A.not (A.eq r2 0)=false:=J;rw[Y,Z]at J;have aa:r2=0:=yU J;have I:nu env vs x.upper=0:=by rw[<- H,aa]
 rw[I,if_pos rfl,if_neg yD]at h;clear J H aa;have F:=Ho P;have G:=Ho I;cbv;repeat' (first|apply bw|exact zf|(intro J;cbv)|apply bG|(refine X.call (T7 he z Q V a.lo.le F u λb1 d=>?_);cbv)|(refine X.call (T7 he z Q V a.up.le G v λb2 g=>?_);cbv))
 ·have g1:A.not b2=true:=yA;rw[Y]at g1;refine h _ ?_;rw[<- d,<-g,if_pos (by rw[g1,ow])]
 rotate_left
 ·have g1:A.not b1=true:=yA;rw[Y]at g1;refine h _ ?_;rw[<- d,if_pos (by rw[g1,xR])]
 have g1:A.not b1=false:=yA;have g2:A.not b2=false:=yA;rw[Y]at g1 g2;rw[<- d,<-g,if_neg (by rw[g1,g2];decide)]at h;clear g1 g2 d g P I F G w ai B;unfold kZ at h;refine X.call (Xf y.ok y.nt y.fL o x0 λl dl T k=>?_);have ao:=T.EO;rw[<- ao]at h;have ah:l.length<=1048576:=bR (kK T.nd λs hs=>((T.mem s).1 hs).1.has) y.nt;have n:l.length<=4294967295:=bR ah yD;have lx:A.len e1=br x.params.length:=gr X.a Q;obtain⟨q,N,f⟩:=lenOf k;cbv;refine lu X (λj=>j<=q/\(l.take j).all (λs=>((ox i s).getD TE.zero).params.length==x.params.length)=true) (λj=>q-j) 0 ⟨bD _,rfl⟩ (λ(j:Nat)=>[(12,.int .i64 j)]) ?_;rintro j ⟨hj,hq⟩;cbv;constructor<;>intro h1
 ·have h5:j<l.length:=lY X.a f h1;have ap:=iX X.a k h5;have an:=jX X.a h5;have k1:=jR X.a k h5;have aj:(l.take (j+1)).all (λs=>((ox i s).getD TE.zero).params.length==x.params.length)=(((ox i l[j]).getD TE.zero).params.length==x.params.length):=by rw[bX h5,nS,hq,fB,wL,Ip,qI]
  have ag:(((ox i l[j]).getD TE.zero).params.length==x.params.length)=false->l.all (λs=>((ox i s).getD TE.zero).params.length==x.params.length)=false:=λe=>all_false h5 e;clear h1;cbv;repeat' (first|apply bw|exact zf|(intro J;cbv)|apply bG|(refine X.call (JV.1 o y.ok.nt k1 λt0 t1 t2 t3 t4 t5 t6 t7 t8 t9 ay aD b al hb=>?_);cbv))
  all_goals try first|exact ap|exact an
  all_goals (
   have ly:A.len t1=br ((ox i l[j]).getD TE.zero).params.length:=gr X.a al.2.1
   have e9:A.not (A.eq (A.len t1) (A.len e1))= !(((ox i l[j]).getD TE.zero).params.length==x.params.length):=by
    rw[Y,Z,ly,lx]
    congr 1
    rw[cm];simp only[beq_iff_eq,bz];omega)
  all_goals first
   |(have g1:=e9.symm.trans (show A.not (A.eq (A.len t1) (A.len e1))=true by assumption)
     refine h _ ?_;rw[ag (yU g1),if_pos rfl,if_pos rfl])
   |(have g1:=e9.symm.trans (show A.not (A.eq (A.len t1) (A.len e1))=false by assumption)
     exact⟨j+1,⟨yO,aj.trans (yU g1)⟩,yO,yc⟩)
 ·have h5:j=q:=gY X.a f h1;rw[h5,N,bF]at hq;simp only[hq,Na,if_false]at h;clear h1 hj h5 hq;cbv;have m:∀b c,A.not b=c->b= !c:=λb c e=>by rw[Y]at e;rw[<- e,xS]
  repeat' (first|apply bw|exact zf|(intro J;cbv)|apply bG|(refine X.call (T6 y.ok o k n _ a.lo.le u λb1 d=>?_);cbv)|(refine X.call (T6 y.ok o k n _ a.up.le v λb2 g=>?_);cbv)|(refine X.call (T5 y.ok o k n Q _ a.lo.le (bR a.lo.sz yD) u λb3 R=>?_);cbv)|(refine X.call (T5 y.ok o k n Q _ a.up.le (bR a.up.sz yD) v λb4 ac=>?_);cbv))
  all_goals refine h _ ?_
  ·have t:=m _ _ (show A.not b1=false by assumption);have M:=m _ _ (show A.not b2=false by assumption);have z3:=m _ _ (show A.not b3=false by assumption);have z4:=m _ _ (show A.not b4=true by assumption);rw[<- d,<-g,<-R,<-ac,t,M,z3,z4];rfl
  ·have t:=m _ _ (show A.not b1=false by assumption);have M:=m _ _ (show A.not b2=false by assumption);have z3:=m _ _ (show A.not b3=false by assumption);have z4:=m _ _ (show A.not b4=false by assumption);rw[<- d,<-g,<-R,<-ac,t,M,z3,z4];rfl
  ·have t:=m _ _ (show A.not b1=false by assumption);have M:=m _ _ (show A.not b2=false by assumption);have z3:=m _ _ (show A.not b3=true by assumption);rw[<- d,<-g,<-R,t,M,z3];rfl
  ·have t:=m _ _ (show A.not b1=false by assumption);have M:=m _ _ (show A.not b2=true by assumption);rw[<- d,<-g,t,M];rfl
  ·have t:=m _ _ (show A.not b1=true by assumption);rw[<- d,t];rfl
end Go.VC.cK
namespace Go.VC
def sa{q:Int}{l:List S}{k:Nat}(h:k<l.length):fN q 0 (l.take (k+1))=fN q 0 (l.take k)++[⟨q,br k,l[k]⟩]:=by rw[bX h,AS];simp[De (JO h)]
end Go.VC
namespace Go.VC.cK
open Go Go.VC Go.Proofs
section
variable {K:PV->List Ob->Prop}
def SX:eE:={tt:=tt,n:=82,own:=[8]}
def Xh{i:IF}(w:i.fit){v:S}{c1 c2 n o:D}(P:jN i v c1 c2 n o)(h:∀r,r=bH td (rO i)->K (.lst 206 r) []):
 FT 136 [] [mf v c1 c2 n o] K:=by
 obtain⟨R,I,H,B,z⟩:=P;have nt:=w.nt;have nv:=w.nv;have na:=w.na;have nd:=w.nd;have Q:(lh i).length=i.types.length:=by unfold lh;simp
 have M:(kL i).length=i.values.length:=by unfold kL;simp
 have O:(lK i).length=i.aliases.length:=by unfold lK;simp
 have N:(qL i).length=i.deprecated.length:=by unfold qL;simp
 refine en SX Tryz.func136 λA C L X=>?_;obtain⟨m,x,c⟩:=lenOf I;obtain⟨g,E,e⟩:=lenOf H;obtain⟨j,G,b⟩:=lenOf B;obtain⟨l,F,d⟩:=lenOf z;cbv;refine lP X (λy=>y.1<=m/\y.2=bH td (fN 0 0 ((lh i).take y.1))) (λy=>m-y.1) (0,A.lit []) ⟨bD _,yX⟩ [0,1] (λ(y:Nat×D)=>⟨[(4,.int .i64 y.1),(3,.row 206 1),(1,.box 0 0)],[.box [.str v,.lst 45 c1,.lst 99 c2,.lst 141 n,.lst 152 o],.row 206 y.2 true]⟩) ?_;rintro⟨k,r⟩ ⟨hk,hr⟩;simp only at hk hr;cbv;constructor<;>intro h1
 ·have h5:k<i.types.length:=lY X.a c h1;have h6:k<(lh i).length:=yO;have p:=(Nl X.a I h5).1;have f:(lh i)[k]=i.types[k].name:=jg _;have u:=iX X.a I h5;have t:=jX X.a h5;have hb:A.fU (A.add (A.len r) (A.len (A.lit [[.int 0,.int (br k),.str (A.bL (A.cell c1 (br k) 0))]]))) 4294967296:=by rw[X.a,hr];simp only[SD,oU,bE];omega
  have s:A.app r (A.lit [[.int 0,.int (br k),.str (A.bL (A.cell c1 (br k) 0))]])=bH td (fN 0 0 ((lh i).take (k+1))):=by rw[sa h6,f,p,X.a,hr];exact cx (k:=[(⟨0,br k,i.types[k].name⟩:En)])
  clear h1;refine p1 ?_;exact⟨(k+1,_),⟨yP,s⟩,yP,[0,1],rfl,yc⟩
 have h5:k=m:=gY X.a c h1;subst h5;have a:(lh i).take k=lh i:=cG yO;rw[a]at hr;clear h1 hk a;cbv;refine lP X (λy=>y.1<=g/\y.2=bH td (fN 0 0 (lh i)++fN 1 0 ((kL i).take y.1))) (λy=>g-y.1) (0,r) ⟨bD _,by simpa[fN]using hr⟩ [0,1] (λ(y:Nat×D)=>⟨[(5,.int .i64 y.1),(3,.row 206 1),(1,.box 0 0)],[.box [.str v,.lst 45 c1,.lst 99 c2,.lst 141 n,.lst 152 o],.row 206 y.2 true]⟩) ?_;clear hr;rintro⟨k,r⟩ ⟨hk,hr⟩;simp only at hk hr;cbv;constructor<;>intro h1
 ·have h5:k<i.values.length:=lY X.a e h1;have h6:k<(kL i).length:=yO;have p:=(Nd X.a H h5).1;have f:(kL i)[k]=i.values[k].name:=jg _;have u:=iX X.a H h5;have t:=jX X.a h5;have hb:A.fU (A.add (A.len r) (A.len (A.lit [[.int 1,.int (br k),.str (A.bL (A.cell c2 (br k) 0))]]))) 4294967296:=by rw[X.a,hr];simp only[SD,oU,bE];omega
  have s:A.app r (A.lit [[.int 1,.int (br k),.str (A.bL (A.cell c2 (br k) 0))]])=bH td (fN 0 0 (lh i)++fN 1 0 ((kL i).take (k+1))):=by rw[sa h6,f,<-bN,p,X.a,hr];exact cx (k:=[(⟨1,br k,i.values[k].name⟩:En)])
  clear h1;refine p1 ?_;exact⟨(k+1,_),⟨yP,s⟩,yP,[0,1],rfl,yc⟩
 have h5:k=g:=gY X.a e h1;subst h5;have a:(kL i).take k=kL i:=cG yO;rw[a]at hr;clear h1 hk a;cbv;refine lP X (λy=>y.1<=j/\y.2=bH td (fN 0 0 (lh i)++fN 1 0 (kL i)++fN 2 0 ((lK i).take y.1))) (λy=>j-y.1) (0,r) ⟨bD _,by simpa[fN]using hr⟩ [0,1] (λ(y:Nat×D)=>⟨[(6,.int .i64 y.1),(3,.row 206 1),(1,.box 0 0)],[.box [.str v,.lst 45 c1,.lst 99 c2,.lst 141 n,.lst 152 o],.row 206 y.2 true]⟩) ?_;clear hr;rintro⟨k,r⟩ ⟨hk,hr⟩;simp only at hk hr;cbv;constructor<;>intro h1
 ·have h5:k<i.aliases.length:=lY X.a b h1;have h6:k<(lK i).length:=yO;have p:=(OI X.a B h5).1;have f:(lK i)[k]=i.aliases[k].name:=jg _;have u:=iX X.a B h5;have t:=jX X.a h5;have hb:A.fU (A.add (A.len r) (A.len (A.lit [[.int 2,.int (br k),.str (A.bL (A.cell n (br k) 0))]]))) 4294967296:=by rw[X.a,hr];simp only[SD,oU,bE];omega
  have s:A.app r (A.lit [[.int 2,.int (br k),.str (A.bL (A.cell n (br k) 0))]])=bH td (fN 0 0 (lh i)++fN 1 0 (kL i)++fN 2 0 ((lK i).take (k+1))):=by rw[sa h6,f,<-bN,p,X.a,hr];exact cx (k:=[(⟨2,br k,i.aliases[k].name⟩:En)])
  clear h1;refine p1 ?_;exact⟨(k+1,_),⟨yP,s⟩,yP,[0,1],rfl,yc⟩
 have h5:k=j:=gY X.a b h1;subst h5;have a:(lK i).take k=lK i:=cG yO;rw[a]at hr;clear h1 hk a;cbv;refine lP X (λy=>y.1<=l/\y.2=bH td (fN 0 0 (lh i)++fN 1 0 (kL i)++fN 2 0 (lK i)++fN 3 0 ((qL i).take y.1))) (λy=>l-y.1) (0,r) ⟨bD _,by simpa[fN]using hr⟩ [0,1] (λ(y:Nat×D)=>⟨[(7,.int .i64 y.1),(3,.row 206 1),(1,.box 0 0)],[.box [.str v,.lst 45 c1,.lst 99 c2,.lst 141 n,.lst 152 o],.row 206 y.2 true]⟩) ?_;clear hr;rintro⟨k,r⟩ ⟨hk,hr⟩;simp only at hk hr;cbv;constructor<;>intro h1
 ·have h5:k<i.deprecated.length:=lY X.a d h1;have h6:k<(qL i).length:=yO;have p:=(Tf X.a z h5).1;have f:(qL i)[k]=i.deprecated[k].name:=jg _;have u:=iX X.a z h5;have t:=jX X.a h5;have hb:A.fU (A.add (A.len r) (A.len (A.lit [[.int 3,.int (br k),.str (A.bL (A.cell o (br k) 0))]]))) 4294967296:=by rw[X.a,hr];simp only[SD,oU,bE];omega
  have s:A.app r (A.lit [[.int 3,.int (br k),.str (A.bL (A.cell o (br k) 0))]])=bH td (fN 0 0 (lh i)++fN 1 0 (kL i)++fN 2 0 (lK i)++fN 3 0 ((qL i).take (k+1))):=by rw[sa h6,f,<-bN,p,X.a,hr];exact cx (k:=[(⟨3,br k,i.deprecated[k].name⟩:En)])
  clear h1;refine p1 ?_;exact⟨(k+1,_),⟨yP,s⟩,yP,[0,1],rfl,yc⟩
 have h5:k=l:=gY X.a d h1;subst h5;have a:(qL i).take k=qL i:=cG yO;rw[a]at hr;clear h1 hk a;have q:=h r hr;cbv;exact q
def Xg{x:En}(hs:x.s.length<=1048576){a c1:Int}{c2:S}(h0:a=x.q)(J:c2=x.s)(h:∀b,b=sP x->K (.bool b) []):
 FT 137 [] [.agg [.int .i64 a,.int .i64 c1,.str c2]] K:=by
 have hl:c2.length<=4294967295:=by rw[J];omega
 unfold sP at h;rw[<- h0,<-J]at h;refine en (cf 22) Tryz.func137 λA C L X=>?_;have Z:=mI X.a;have c:A.le 2 a=decide (2<=a):=yX;cbv;repeat' (first|apply bw|exact zf|(intro J;cbv)|apply bG|(refine X.call (TD hl λb hb=>?_);cbv)|(refine X.call (JK hl λb1 d=>?_);cbv))
 all_goals refine h _ ?_
 ·have e1:A.eq a 0=true:=yA;rw[Z]at e1;rw[if_pos (yU e1)];exact hb
 all_goals (
  have e1:A.eq a 0=false:=yA;rw[Z]at e1;rw[if_neg (yU e1),<-d])
 ·have e2:b1=false:=yA;have e3:A.le 2 a=true:=yA;rw[c]at e3;rw[e2,e3,<-hb];rfl
 ·have e2:b1=false:=yA;have e3:A.le 2 a=false:=yA;rw[c]at e3;rw[e2,e3];rfl
 ·have e2:b1=true:=yA;rw[e2];rfl
end
end Go.VC.cK
namespace Go.VC
section
variable {l:List En}{x y:En}{p:Option En}
def Ow{A:qC}{d:D}{i:Nat}(ha:A=Std)(hd:d=bH td l)(h:i<l.length):A.asInt (A.cell d (br i) 0)=l[i].q/\A.asInt (A.cell d (br i) 1)=l[i].k/\A.bL (A.cell d (br i) 2)=l[i].s:=by subst ha hd;rw[ix h,ix h,ix h];exact⟨rfl,rfl,rfl⟩
def LZ(i:IF):(rO i).length=i.types.length+i.values.length+i.aliases.length+i.deprecated.length:=by unfold rO;simp only[bE,oU];unfold lh kL lK qL;simp
def x8{q:Int}:∀{k:Nat}{l:List S}{x:En},x∈fN q k l->x.s∈l
 |_,[],x,h=>by simp[fN]at h
 |k,s::l,x,h=>by
  rw[fN]at h;rcases bP.1 h with rfl|h
  ·simp
  ·exact gG _ (x8 h)
def QH{i:IF}(b:i.fit)(h:x∈rO i):x.s.length<=1048576:=by
 unfold rO at h;rw[bJ,bJ,bJ]at h;rcases h with((h|h)|h)|h
 ·obtain⟨y,a,e⟩:=bT.1 (x8 h);rw[<- e];exact(b.t y a).n
 ·obtain⟨y,a,e⟩:=bT.1 (x8 h);rw[<- e];exact(b.v y a).n
 ·obtain⟨y,a,e⟩:=bT.1 (x8 h);rw[<- e];exact(b.a y a).n
 ·obtain⟨y,a,e⟩:=bT.1 (x8 h);rw[<- e];exact(b.d y a).n
def QI(i:IF)(h:0<(rO i).length):(rO i)[0].k=0:=by
 have b:∀x f,fN 3 0 (qL i)=x::f->x.k=0:=by have:=lH 3 (qL i) [] yS;simpa using this
 have d:=lH 2 (lK i) _ b;have a:=lH 1 (kL i) _ d;have c:=lH 0 (lh i) _ a;have e:rO i=(rO i)[0]::(rO i).drop 1:=by have:=bM h;simpa using this
 refine c _ ((rO i).drop 1) ?_;rw[<- e];unfold rO;rw[bN,bN]
def A6(l:List En)(k:Nat):Option En:=if k=0 then none else l[k-1]?
def NH{k:Nat}(h:k<l.length):A6 l (k+1)=some l[k]:=by unfold A6;rw[if_neg yO];simp[h]
def R5(h:sP x=false):so p (x::l)=(x.s,4):=by cases p<;>rw[so,if_pos h]
def R6(h:sP x=true)(hk:0<x.k)(hs:slt y.s x.s=false)(e:y.s=x.s):so (some y) (x::l)=(x.s,5):=by rw[so,if_neg (by rw[h];decide),if_pos ⟨hk,hs⟩,if_pos e]
def R7(h:sP x=true)(hk:0<x.k)(hs:slt y.s x.s=false)(e:¬y.s=x.s):so (some y) (x::l)=(x.s,1):=by rw[so,if_neg (by rw[h];decide),if_pos ⟨hk,hs⟩,if_neg e]
def R4(h:sP x=true)(hs:slt y.s x.s=true):so (some y) (x::l)=so (some x) l:=by rw[so,if_neg (by rw[h];decide),if_neg (by rw[hs];simp)]
def R3(h:sP x=true)(hk:¬0<x.k):so p (x::l)=so (some x) l:=by
 cases p with
 |none=>rw[so,if_neg (by rw[h];decide)]
 |some y=>rw[so,if_neg (by rw[h];decide),if_neg (λe=>hk e.1)]
def E5(x y:En):Bool:=decide (x.q<3)&&decide (y.q<x.q)&&y.s==x.s
end
end Go.VC
namespace Go.VC.cK
open Go Go.VC Go.Proofs
def Zp{i:IF}(O:i.fit){c0:S}{c1 c2 c3 c4:D}(hx:jN i c0 c1 c2 c3 c4){K:PV->List Ob->Prop}(h:∀(s:S)(r:Int),(s,r)=fE (oH i) (rR i)->K (.tup [.str s,.int .i64 r]) []):
 FC Tryz.prog tt 94 [] [mf c0 c1 c2 c3 c4] K:=by
 obtain⟨en,u⟩:∃en,en=rO i:=⟨_,rfl⟩;have an:en.length<=4194304:=by rw[u,LZ];have:=O.nt;have:=O.nv;have:=O.na;have:=O.nd;omega
 have af:∀x∈en,x.s.length<=1048576:=λx hx=>QH O (by rw[<- u];exact hx);have Q:∀h:0<en.length,en[0].k=0:=by rw[u];exact QI i
 rw[<- Qp,<-Oy,<-u]at h;refine FC.enter (G:=Yu) eX mixed ⟨Tryz.func94,by rfl,rfl⟩ rfl rfl rfl ?_;intro A C L X;have Y:=fz X.a;have Z:=mI X.a;have da:=Dh X.a;have E:=Dg X.a;have F:=Uo X.a;cbv;refine X.call (Xh O hx λa d=>?_);rw[<- u]at d;obtain⟨f,t,c⟩:=lenOf d;cbv;refine X.loop (λ(k:Nat)=>⟨[(5,.int .i64 k),(4,.lst 206 a)],[]⟩) (λk=>k<=f/\so none en=so (A6 en k) (en.drop k)) (λk=>f-k) 0 ⟨bD _,rfl⟩ ?_ ?_
 ·(cbv;repeat' apply bw);all_goals try first|trivial|rfl|(rw[X.a];rfl)
 rintro k ⟨hk,g⟩;cbv;refine⟨λh1=>?_,λh1=>?_⟩
 ·have h5:k<en.length:=by obtain rfl:=X.a;simp only[c,SD,dq]at h1;omega
  obtain⟨k0,k1,v⟩:=Ow X.a d h5;have M:A.idx (br k) (A.len a):=by rw[X.a,d];exact cP h5
  have H:A.inr .i64 (A.add (br k) 1):=by rw[X.a];exact ek h5 (by omega)
  have W:=af _ (bx h5);rw[bM h5]at g;have hK:∀(r:Int),r≠0->so none en=(en[k].s,r)->K (.tup [.str (A.bL (A.cell a (br k) 2)),.int .i64 r]) []:=λr hr e=>by rw[v];exact h _ _ (by rw[e];unfold fE;rw[if_pos (by exact hr)])
  have V:=NH h5;have g1:A.lt 0 (A.asInt (A.cell a (br k) 1))=decide (0<en[k].k):=by rw[da,k1]
  have w:A.lt 0 (A.asInt (A.cell a (br k) 1))=true->1<=k:=λe=>by
   rw[g1]at e;rcases pE k with N|N
   ·subst N;rw[Q h5]at e;simp at e
   ·exact N
  have aa:1<=k->A.sub (br k) 1=br (k-1):=λe=>by rw[X.a,iK];simp only[bz];omega
  have ad:A.inr .i64 (A.sub (br k) 1):=by rw[X.a,dK,iK];simp only[bz];omega
  have B:∀e:1<=k,A.idx (A.sub (br k) 1) (A.len a)/\A6 en k=some en[k-1]/\A.bL (A.cell a (A.sub (br k) 1) 2)=en[k-1].s:=λe=>by
   have h6:k-1<en.length:=by omega
   rw[aa e];refine⟨by rw[X.a,d];exact cP h6,?_,(Ow X.a d h6).2.2⟩;unfold A6;rw[if_neg (by omega)];simp[h6]
  clear h1;cbv;repeat' (first|apply bw|exactλ(_:FF)=>by kernel_rfl|(intro J;cbv)|apply bG|(refine X.call (Xg W k0 v λb hb=>?_);cbv))
  all_goals try first|exact M|exact H|exact ad|exact(B (w (by assumption))).1
  ·have o:A.not b=true:=by assumption
   rw[Y,hb]at o;exact hK 4 (by decide) (by rw[g,R5 (by simpa using o)])
  all_goals (
   have o:sP en[k]=true:=by
    have z:A.not b=false:=by assumption
    rw[Y,hb]at z;simpa using z)
  ·have m:A.lt 0 (A.asInt (A.cell a (br k) 1))=true:=by assumption
   obtain⟨_,p1,p2⟩:=B (w m);have n:A.not (A.slt (A.bL (A.cell a (A.sub (br k) 1) 2)) (A.bL (A.cell a (br k) 2)))=true:=by assumption
   have T:A.seq (A.bL (A.cell a (A.sub (br k) 1) 2)) (A.bL (A.cell a (br k) 2))=true:=by assumption
   rw[g1]at m;rw[Y,F,p2,v]at n;rw[E,p2,v]at T;exact hK 5 (by decide) (by rw[g,p1,R6 o (by simpa using m) (by simpa using n) (by simpa using T)])
  ·have m:A.lt 0 (A.asInt (A.cell a (br k) 1))=true:=by assumption
   obtain⟨_,p1,p2⟩:=B (w m);have n:A.not (A.slt (A.bL (A.cell a (A.sub (br k) 1) 2)) (A.bL (A.cell a (br k) 2)))=true:=by assumption
   have T:A.seq (A.bL (A.cell a (A.sub (br k) 1) 2)) (A.bL (A.cell a (br k) 2))=false:=by assumption
   rw[g1]at m;rw[Y,F,p2,v]at n;rw[E,p2,v]at T;exact hK 1 (by decide) (by rw[g,p1,R7 o (by simpa using m) (by simpa using n) (by simpa using T)])
  ·have m:A.lt 0 (A.asInt (A.cell a (br k) 1))=true:=by assumption
   obtain⟨_,p1,p2⟩:=B (w m);have n:A.not (A.slt (A.bL (A.cell a (A.sub (br k) 1) 2)) (A.bL (A.cell a (br k) 2)))=false:=by assumption
   rw[Y,F,p2,v]at n;refine⟨k+1,⟨by omega,by rw[g,p1,R4 o (by simpa using n),V]⟩,by omega,?_⟩
   (cbv;repeat' apply bw);all_goals try first|trivial|rfl|(rw[X.a];rfl)
  ·have m:A.lt 0 (A.asInt (A.cell a (br k) 1))=false:=by assumption
   rw[g1]at m;refine⟨k+1,⟨by omega,by rw[g,R3 o (by simpa using m),V]⟩,by omega,?_⟩
   (cbv;repeat' apply bw);all_goals try first|trivial|rfl|(rw[X.a];rfl)
 ·have h5:k=f:=by obtain rfl:=X.a;simp only[c,SD,dq]at h1;omega
  rw[h5,t,bZ]at g;have N:so none en=([],0):=by rw[g];cases A6 en en.length<;>rfl
  rw[N]at h;have h:∀(s:S)(r:Int),(s,r)=Ap [] en->K (.tup [.str s,.int .i64 r]) []:=λs r e=>h s r (by rw[e];rfl);clear g N h1 hk h5 Q;cbv;refine X.loop (λ(k:Nat)=>⟨[(6,.int .i64 k),(4,.lst 206 a)],[]⟩) (λk=>k<=f/\Ap [] en=Ap (en.take k) (en.drop k)) (λk=>f-k) 0 ⟨bD _,rfl⟩ ?_ ?_
  ·(cbv;repeat' apply bw);all_goals try first|trivial|rfl|(rw[X.a];rfl)
  rintro k ⟨hk,g⟩;cbv;refine⟨λh1=>?_,λh1=>?_⟩
  ·have h5:k<en.length:=by obtain rfl:=X.a;simp only[c,SD,dq]at h1;omega
   obtain⟨k0,k1,v⟩:=Ow X.a d h5;have M:A.idx (br k) (A.len a):=by rw[X.a,d];exact cP h5
   have H:A.inr .i64 (A.add (br k) 1):=by rw[X.a];exact ek h5 (by omega)
   rw[bM h5,Ap]at g;have R:E4 (en.take k) en[k]=(en.take k).any (E5 en[k]):=rfl;rw[R]at g;clear h1 R;refine X.loop (λ(j:Nat)=>⟨[(7,.int .i64 j),(6,.int .i64 k),(4,.lst 206 a)],[]⟩) (λj=>j<=k/\(en.take j).any (E5 en[k])=false) (λj=>k-j) 0 ⟨bD _,rfl⟩ ?_ ?_
   ·(cbv;repeat' apply bw);all_goals try first|trivial|rfl|(rw[X.a];rfl)
   rintro j ⟨hj,I⟩;cbv;refine⟨λh1=>?_,λh1=>?_⟩
   ·have h6:j<k:=by have h1:A.lt (br j) (br k)=true:=h1;rw[da]at h1;have:=of_decide_eq_true h1;simp only[bz]at this;omega
    have h7:j<en.length:=by omega
    obtain⟨j0,j1,j2⟩:=Ow X.a d h7;have U:A.idx (br j) (A.len a):=by rw[X.a,d];exact cP h7
    have P:A.inr .i64 (A.add (br j) 1):=by rw[X.a];exact ek h7 (by omega)
    have y1:A.lt (A.asInt (A.cell a (br k) 0)) 3=decide (en[k].q<3):=by rw[da,k0]
    have y2:A.lt (A.asInt (A.cell a (br j) 0)) (A.asInt (A.cell a (br k) 0))=decide (en[j].q<en[k].q):=by rw[da,k0,j0]
    have y3:A.seq (A.bL (A.cell a (br j) 2)) (A.bL (A.cell a (br k) 2))=(en[j].s==en[k].s):=by rw[E,j2,v]
    have hT:E5 en[k] en[j]=true->K (.tup [.str (A.bL (A.cell a (br k) 2)),.int .i64 5]) []:=λe=>by
     rw[v];have:(en.take k).any (E5 en[k])=true:=by rw[dZ];exact⟨en[j],by rw[iE];exact⟨j,by omega,rfl⟩,e⟩
     exact h _ _ (by rw[g,if_pos this])
    have hF:E5 en[k] en[j]=false->(en.take (j+1)).any (E5 en[k])=false:=λe=>by rw[bX h7,jB,I,kW,List.any_nil,e];rfl
    clear h1;cbv;repeat' (first|apply bw|exactλ(_:FF)=>by kernel_rfl|(intro J;cbv)|apply bG)
    all_goals try first|exact M|exact U|exact P
    ·have o:A.lt (A.asInt (A.cell a (br k) 0)) 3=true:=by assumption
     have m:A.lt (A.asInt (A.cell a (br j) 0)) (A.asInt (A.cell a (br k) 0))=true:=by assumption
     have n:A.seq (A.bL (A.cell a (br j) 2)) (A.bL (A.cell a (br k) 2))=true:=by assumption
     refine hT ?_;unfold E5;rw[<- y1,<-y2,<-y3,o,m,n];rfl
    all_goals (
     refine⟨j+1,⟨by omega,hF ?_⟩,by omega,?_⟩
     ·unfold E5
      first
       |(have n:A.seq (A.bL (A.cell a (br j) 2)) (A.bL (A.cell a (br k) 2))=false:=by assumption
         rw[<- y3,n,fb])
       |(have m:A.lt (A.asInt (A.cell a (br j) 0)) (A.asInt (A.cell a (br k) 0))=false:=by assumption
         rw[<- y2,m,fb,fH])
       |(have o:A.lt (A.asInt (A.cell a (br k) 0)) 3=false:=by assumption
         rw[<- y1,o,fH,fH])
     (cbv;repeat' apply bw);all_goals try first|trivial|rfl|(rw[X.a];rfl))
   ·have h6:j=k:=by have h1:A.lt (br j) (br k)=false:=h1;rw[da]at h1;have:=of_decide_eq_false h1;simp only[bz]at this;omega
    rw[h6]at I;rw[if_neg (by rw[I];decide)]at g;cbv;repeat' (first|apply bw|exactλ(_:FF)=>by kernel_rfl|(intro J;cbv)|apply bG)
    all_goals try exact H
    refine⟨k+1,⟨by omega,by rw[g,bX h5]⟩,by omega,?_⟩
    (cbv;repeat' apply bw);all_goals try first|trivial|rfl|(rw[X.a];rfl)
  ·have h5:k=f:=by obtain rfl:=X.a;simp only[c,SD,dq]at h1;omega
   rw[h5,t,bZ]at g;have q:=h [] 0 (by rw[g];rfl);cbv;exact q
end Go.VC.cK
namespace Go.VC
def wi(a b c:S×Int):fE (fE a b) c=fE a (fE b c):=by unfold fE;by_cases h:a.2=0<;>by_cases J:b.2=0<;>simp[h,J]
def tG{a b:S×Int}(h:a.2≠0):fE a b=a:=by unfold fE;rw[if_pos h]
def wh{a b:S×Int}(h:a.2=0):fE a b=b:=by unfold fE;rw[if_neg (yU h)]
def Jl(env:List IF)(i:IF):lN env i=fE ([],rF i) (fE (fE (oH i) (rR i)) (fE (gQ (nU env i) TE.name i.types) (fE (gQ (sM env) VE.name i.values) (fE (gQ (j3 env) AE.name i.aliases) (nC i))))):=by
 have b:fE (nC i) ([],0)=nC i:=by
  unfold nC;generalize i.deprecated=l;induction l with
  |nil=>rfl
  |cons x l a=>
   rw[uL];split
   ·rfl
   ·split
    ·rfl
    ·exact a
 unfold lN ka;rw[b,wi,wi,wi]
end Go.VC
namespace Go.VC.cK
open Go Go.VC Go.Proofs
def ZJ{env:List IF}{de:D}(he:de=bH dC env)(B:dW env)(R:∀i∈env,i.fit){p:S}{K:PV->List Ob->Prop}(h:∀(s:S)(r:Int),(s,r)=iA env p->K (.tup [.str s,.int .i64 r]) []):
 FT 54 [] [.lst 51 de,.str p] K:=by
 unfold iA at h;refine en YM Tryz.func54 λA C L X=>?_;have Y:=fz X.a;have Z:=mI X.a;have da:=Dh X.a;cbv;refine X.call (Q2 he B.1 rfl λc0 c1 c2 T c4 b N hb=>?_);cases hf:gu env p with
 |none=>
  rw[hf]at h hb;obtain rfl:b=false:=hb;have q:=h [] 6 rfl;cbv;repeat' (first|apply bw|exact zf|(intro J;cbv)|apply bG)
  ·exact q
  ·exfalso;have z:A.not false=false:=yA;rw[Y]at z;simp at z
 |some i=>
 rw[hf]at h hb N;obtain rfl:b=true:=hb;simp only[dQ]at N;have y:i.fit:=R i (di hf);have ac:=N;obtain⟨W,x1,x2,x3,x4⟩:=ac;have nt:=y.nt;have nv:=y.nv;have na:=y.na;have nd:=y.nd;have h:∀(s:S)(r:Int),(s,r)=lN env i->K (.tup [.str s,.int .i64 r]) []:=h;rw[Jl]at h;clear hf;obtain⟨x,F,c⟩:=lenOf x1;obtain⟨t,G,d⟩:=lenOf x2;obtain⟨v,I,f⟩:=lenOf x3;obtain⟨w,H,j⟩:=lenOf x4;have O:c0.length<=4294967200:=by rw[W];exact bR y.path yD
 have i1:A.inr .i64 (A.add (A.len c1) (A.len c2)):=by rw[X.a,c,d,dK,dO];simp only[bz];omega
 have i2:A.inr .i64 (A.add (A.add (A.len c1) (A.len c2)) (A.len T)):=by rw[X.a,c,d,f,dK,dO,dO];simp only[bz];omega
 have i3:A.lt 64 (A.add (A.add (A.len c1) (A.len c2)) (A.len T))=decide (64<i.types.length+i.values.length+i.aliases.length):=by rw[da,X.a,c,d,f,dO,dO,cm];simp only[decide_eq_true_eq,bz];omega
 cbv;repeat' (first|apply bw|exact zf|(intro J;cbv)|apply bG|(refine X.call (XR O λb hb=>?_);cbv))
 all_goals try first|exact i1|exact i2
 ·exfalso;have z:A.not true=true:=yA;rw[Y]at z;simp at z
 ·have z:A.not b=true:=yA;rw[Y,hb,W]at z;exact h [] 4 (by unfold rF;rw[if_pos (yU z),tG yD])
 ·have z:A.not b=false:=yA;rw[Y,hb,W]at z;have u:A.lt 64 (A.add (A.add (A.len c1) (A.len c2)) (A.len T))=true:=yA;rw[i3]at u;exact h [] 7 (by unfold rF;rw[if_neg (yU z),if_pos (yU u),tG yD])
 have hh:rF i=0:=by have z:A.not b=false:=yA;rw[Y,hb,W]at z;have u:A.lt 64 (A.add (A.add (A.len c1) (A.len c2)) (A.len T))=false:=yA;rw[i3]at u;unfold rF;rw[if_neg (yU z),if_neg (yU u)]
 rw[hh,wh rfl]at h;clear hh i1 i2 i3 O;refine X.call (Zp y N λs r P=>?_);rw[<- P]at h;refine p2 (λJ=>?_) (λJ=>?_)
 ·have z:A.not (A.eq r 0)=true:=yA;rw[Y,Z]at z;exact h s r (by rw[tG (yU z)])
 have z:A.not (A.eq r 0)=false:=yA;rw[Y,Z]at z;rw[wh (yU z)]at h;clear z P;refine lu X (λk=>k<=x/\gQ (nU env i) TE.name i.types=gQ (nU env i) TE.name (i.types.drop k)) (λk=>x-k) 0 ⟨bD _,rfl⟩ (λ(k:Nat)=>[(10,.int .i64 k)]) ?_;rintro k ⟨hk,a⟩;cbv;constructor<;>intro h1
 ·have h5:k<i.types.length:=lY X.a c h1;have o:=nx X.a x1 h5;have M:=o.1;have n:=iX X.a x1 h5;have m:=jX X.a h5;have U:=bx h5;rw[bM h5,gQ]at a;have E:∀r:Int,r≠0->gQ (nU env i) TE.name i.types=(TE.name i.types[k],r)->K (.tup [.str (A.bL (A.cell c1 (br k) 0)),.int .i64 r]) []:=λr z e=>by rw[M];exact h _ _ (by rw[e,tG z])
  clear h1;cbv;repeat' (first|apply bw|exact zf|(intro J;cbv)|apply bG|(refine X.call (Zo he B y N (y.t _ U) o λr2 g=>?_);cbv))
  all_goals try first|exact n|exact m
  all_goals (
   have g:r2=nU env i i.types[k]:=g;rw[<- g]at a)
  ·have z:A.not (A.eq r2 0)=true:=yA;rw[Y,Z]at z;have z:r2≠0:=yU z;rw[if_pos z]at a;exact E _ z a
  ·have z:A.not (A.eq r2 0)=false:=yA;rw[Y,Z]at z;rw[if_neg (yU z)]at a;exact⟨k+1,⟨yO,a⟩,yO,yc⟩
 have h5:k=x:=gY X.a c h1;rw[h5,F,bZ]at a;rw[a,gQ,wh rfl]at h;clear a h1 hk h5;cbv;refine lu X (λk=>k<=t/\gQ (sM env) VE.name i.values=gQ (sM env) VE.name (i.values.drop k)) (λk=>t-k) 0 ⟨bD _,rfl⟩ (λ(k:Nat)=>[(12,.int .i64 k)]) ?_;rintro k ⟨hk,a⟩;cbv;constructor<;>intro h1
 ·have h5:k<i.values.length:=lY X.a d h1;have o:=pL X.a x2 h5;have M:=o.1;have n:=iX X.a x2 h5;have m:=jX X.a h5;have U:=bx h5;rw[bM h5,gQ]at a;have E:∀r:Int,r≠0->gQ (sM env) VE.name i.values=(VE.name i.values[k],r)->K (.tup [.str (A.bL (A.cell c2 (br k) 0)),.int .i64 r]) []:=λr z e=>by rw[M];exact h _ _ (by rw[e,tG z])
  clear h1;cbv;repeat' (first|apply bw|exact zf|(intro J;cbv)|apply bG|(refine X.call (Zn he B (y.v _ U) o λr2 g=>?_);cbv))
  all_goals try first|exact n|exact m
  all_goals (
   have g:r2=sM env i.values[k]:=g;rw[<- g]at a)
  ·have z:A.not (A.eq r2 0)=true:=yA;rw[Y,Z]at z;have z:r2≠0:=yU z;rw[if_pos z]at a;exact E _ z a
  ·have z:A.not (A.eq r2 0)=false:=yA;rw[Y,Z]at z;rw[if_neg (yU z)]at a;exact⟨k+1,⟨yO,a⟩,yO,yc⟩
 have h5:k=t:=gY X.a d h1;rw[h5,G,bZ]at a;rw[a,gQ,wh rfl]at h;clear a h1 hk h5;cbv;refine lu X (λk=>k<=v/\gQ (j3 env) AE.name i.aliases=gQ (j3 env) AE.name (i.aliases.drop k)) (λk=>v-k) 0 ⟨bD _,rfl⟩ (λ(k:Nat)=>[(14,.int .i64 k)]) ?_;rintro k ⟨hk,a⟩;cbv;constructor<;>intro h1
 ·have h5:k<i.aliases.length:=lY X.a f h1;have o:=tU X.a x3 h5;have M:=o.1;have n:=iX X.a x3 h5;have m:=jX X.a h5;have U:=bx h5;rw[bM h5,gQ]at a;have E:∀r:Int,r≠0->gQ (j3 env) AE.name i.aliases=(AE.name i.aliases[k],r)->K (.tup [.str (A.bL (A.cell T (br k) 0)),.int .i64 r]) []:=λr z e=>by rw[M];exact h _ _ (by rw[e,tG z])
  clear h1;cbv;repeat' (first|apply bw|exact zf|(intro J;cbv)|apply bG|(refine X.call (Zm he B (y.a _ U) o λr2 g=>?_);cbv))
  all_goals try first|exact n|exact m
  all_goals (
   have g:r2=j3 env i.aliases[k]:=g;rw[<- g]at a)
  ·have z:A.not (A.eq r2 0)=true:=yA;rw[Y,Z]at z;have z:r2≠0:=yU z;rw[if_pos z]at a;exact E _ z a
  ·have z:A.not (A.eq r2 0)=false:=yA;rw[Y,Z]at z;rw[if_neg (yU z)]at a;exact⟨k+1,⟨yO,a⟩,yO,yc⟩
 have h5:k=v:=gY X.a f h1;rw[h5,I,bZ]at a;rw[a,gQ,wh rfl]at h;clear a h1 hk h5;cbv;refine X.call (Zl N yO λdx ae=>?_)
 have ai:(n9 (nG i)).length<=4294967295:=by
  have:=mc (l:=nG i);have e:(nG i).length=i.types.length+i.values.length+i.aliases.length:=by unfold nG;simp[eR]
  have e2:n9 (nG i)=me [] (nG i):=rfl;rw[e2];omega
 have ah:∀s,(n9 (nG i)).contains s=(lh i++kL i++lK i).contains s:=λs=>by have e:lh i++kL i++lK i=nG i:=rfl;rw[e,cm,dr,dr,oX]
 unfold nC at h;cbv;refine lu X (λk=>k<=w/\uL i i.deprecated=uL i (i.deprecated.drop k)) (λk=>w-k) 0 ⟨bD _,rfl⟩ (λ(k:Nat)=>[(17,.int .i64 k)]) ?_;rintro k ⟨hk,a⟩;cbv;constructor<;>intro h1
 ·have h5:k<i.deprecated.length:=lY X.a j h1;obtain⟨o,M⟩:=GV X.a x4 h5;have n:=iX X.a x4 h5;have m:=jX X.a h5;rw[bM h5,uL]at a;have V:(lh i++kL i++lK i).contains i.deprecated[k].name=(n9 (nG i)).contains i.deprecated[k].name:=(ah _).symm;rw[V]at a;have E:∀r:Int,r≠0->uL i i.deprecated=(i.deprecated[k].name,r)->K (.tup [.str (A.bL (A.cell c4 (br k) 0)),.int .i64 r]) []:=λr z e=>by rw[o];exact h _ _ e.symm
  have Q:A.lt 65536 (A.dz (A.bL (A.cell c4 (br k) 1)))=decide (65536<i.deprecated[k].note.length):=by rw[da,M,X.a,fJ,cm];simp only[decide_eq_true_eq];omega
  clear h1;cbv;repeat' (first|apply bw|exact zf|(intro J;cbv)|apply bG|(refine X.call (OX ae ai λb hb=>?_);cbv))
  all_goals try first|exact n|exact m
  all_goals (
   have ag:b=List.elem i.deprecated[k].name (n9 (nG i)):=by rw[<- o];exact hb
   rw[<- ag]at a)
  ·have z:A.not b=true:=yA;rw[Y]at z;exact E _ yD (by rw[a,if_pos (yU z)])
  all_goals (
   have z:A.not b=false:=yA;rw[Y]at z;rw[if_neg (yU z)]at a)
  ·have u:A.lt 65536 (A.dz (A.bL (A.cell c4 (br k) 1)))=true:=yA;rw[Q]at u;exact E _ yD (by rw[a,if_pos (yU u)])
  ·have u:A.lt 65536 (A.dz (A.bL (A.cell c4 (br k) 1)))=false:=yA;rw[Q]at u;rw[if_neg (yU u)]at a;exact⟨k+1,⟨yO,a⟩,yO,yc⟩
 have h5:k=w:=gY X.a j h1;rw[h5,H,bZ]at a;have q:=h [] 0 (by rw[a];rfl);cbv;exact q
end Go.VC.cK
namespace Go.VC
def Gm(x:IF):K3 x=pd x:=xH (sc _) (λs=>oX _ s)
def Is{env:List IF}{x:IF}(h:x∈env):x.wt<=(env.map IF.wt).sum:=p8 (bT.2 ⟨x,h,rfl⟩)
end Go.VC
namespace Go.VC.cK
open Go Go.VC Go.Proofs
def U7:eE:={tt:=tt,n:=67,own:=[12]}
def ZI{env:List IF}{de:D}(d:de=bH dC env)(ac:dW env)(ab:(env.map IF.wt).sum<=268435456)(V:env.Pairwise (λa b=>slt a.path b.path=true)){p:S}{K:PV->List Ob->Prop}
 (h:∀l r,(l.getLast? =some p↔LR (zw env) p p)->l.length<=536870912->r=bH encS l->K (.lst 9 r) []):
 FT 55 [] [.lst 51 de,.str p] K:=by
 have B:=LM env;obtain⟨g,hg⟩:∃g,g=zw env:=⟨_,rfl⟩;have aj:∀s,g s=pd ((gu env s).getD IF.zero):=λs=>by rw[hg];exact LL V s
 rw[<- hg]at h B;refine en U7 Tryz.func55 λA C L X=>?_;have Y:=fz X.a;have af:=Dg X.a;cbv;refine lP X (λy=>y.1<=y.2.1.length/\Dp g p y.2.1 y.1/\y.2.2=bH encS y.2.1) (λy=>268435457-y.1) (0,[p],A.lit [[.str p]]) ⟨bD _,Dp.start,yX⟩ [0] (λ(y:Nat×List S×D)=>⟨[(6,.int .i64 y.1),(5,.row 9 0),(0,.lst 51 de),(1,.str p)],[.row 9 y.2.2 true]⟩) ?_;rintro⟨k,out,r⟩ ⟨hk,m,hr⟩;simp only at hk m hr;have U:out.length<=268435457:=bR (m.len B) yO;obtain⟨no,O⟩:∃no,no=out.length:=⟨_,rfl⟩;have u:Std.len r=br no:=by rw[hr,cT,O];rfl
 cbv;constructor<;>intro h1
 ·have h5:k<out.length:=lY X.a u h1;have N:=iX X.a hr h5;have aq:=jX X.a h5;have E:=jR X.a hr h5;obtain⟨s,hs⟩:∃s,s=out[k]:=⟨_,rfl⟩;rw[<- hs]at E;obtain⟨x,z⟩:∃x,x=(gu env s).getD IF.zero:=⟨_,rfl⟩
  have M:x.ok/\x.wt<=268435456:=by
   rw[z];cases hf:gu env s with
   |none=>exact⟨⟨by simp[IF.zero],by simp[IF.zero],by simp[IF.zero],by simp[IF.zero],by simp[IF.zero],by simp[IF.zero]⟩,by simp[IF.zero,IF.wt]⟩
   |some y=>have hm:=di hf;exact⟨ac.2 _ hm,bR (Is hm) ab⟩
  clear h1;refine p1 ?_;refine X.call (Q2 d ac.1 E λc0 c1 c2 c3 c4 b hx hb=>?_);rw[<- z]at hx;cbv;refine X.call (Zk hx M.1 (bR M.2 yD) λv t=>?_);obtain⟨l,hl⟩:∃l,l=g s:=⟨_,rfl⟩;have t:v=bH encS l:=by rw[hl,aj,<-z,<-Gm];exact t
  have ao:l.length<=268435456:=by rw[hl];exact bR (B.one s) ab
  clear hb hx M z;obtain⟨n,G,i⟩:=lenOf t;cbv;refine lP X (λy=>y.1<=n/\Dp g p y.2.1 k/\y.2.1[k]? =some s/\(∀e∈l.take y.1,e∈y.2.1/\e≠p)/\y.2.2=bH encS y.2.1) (λy=>n-y.1) (0,out,r) ⟨bD _,m,by rw[hs,bB h5],yS,hr⟩ [0] (λ(y:Nat×List S×D)=>⟨[(10,.int .i64 y.1),(9,.lst 9 v),(6,.int .i64 k),(5,.row 9 0),(0,.lst 51 de),(1,.str p)],[.row 9 y.2.2 true]⟩) ?_;clear m hr u N hs h5 hk U O E;rintro⟨j,out,r⟩ ⟨hj,m,hs,c,hr⟩;simp only at hj m hs c hr;have U:out.length<=268435457:=bR (m.len B) yO
  have o:k<out.length:=by
   rcases cb k out.length with h|h
   ·exact h
   ·rw[bY h]at hs;cases hs
  have P:out[k]=s:=by rw[bB o]at hs;exact fF hs
  cbv;constructor<;>intro h1
  ·have h6:j<l.length:=lY X.a i h1;have E:=jR X.a t h6;have N:=iX X.a t h6;have R:=jX X.a h6;have ak:A.fU (A.add (A.len r) (A.len (A.lit [[.str (A.bL (A.cell v (br j) 0))]]))) 4294967296:=by rw[X.a,hr];simp only[SD];omega
   have q1:A.app r (A.lit [[.str (A.bL (A.cell v (br j) 0))]])=bH encS (out++[l[j]]):=by rw[E,X.a,hr];exact cx (k:=[l[j]])
   have ad:l[j]∈g out[k]:=by rw[P,<-hl];exact bx h6
   have Q:A.seq (A.bL (A.cell v (br j) 0)) p=(l[j]==p):=by rw[af,E]
   have T:l[j]=p->K (.lst 9 (A.app r (A.lit [[.str (A.bL (A.cell v (br j) 0))]]))) []:=λe=>by
    refine h (out++[l[j]]) _ ?_ (by simp only[bE,bS,cH];omega) q1;have ag:LR g p p:=by have:=Dp.step (m.Lz _ (bx o)) ad;rw[e]at this;exact this
    rw[e];simp[ag]
   have aa:l[j]≠p->l[j]∉out->Dp g p (out++[l[j]]) k:=λe1 e2=>m.add o e2 ad;clear h1;cbv;repeat' (first|apply bw|exact zf|(intro J;cbv)|apply bG|(refine X.call (OX hr yO λb hb=>?_);cbv))
   all_goals try first|exact N|exact R|exact ak
   all_goals first
    |(exfalso
      have W:A.seq (A.bL (A.cell v (br j) 0)) p=true:=yA;have w:A.seq (A.bL (A.cell v (br j) 0)) p=false:=yA;rw[W]at w;cases w;done)
    |(have W:A.seq (A.bL (A.cell v (br j) 0)) p=true:=yA
      exact T (eq_of_beq (Q.symm.trans W)))
    |(have W:A.seq (A.bL (A.cell v (br j) 0)) p=false:=yA
      have F:l[j]≠p:=beq_eq_false_iff_ne.1 (Q.symm.trans W)
      first
       |(have w:A.not b=true:=yA
         have I:l[j]∉out:=by rw[Y]at w;rw[E]at hb;intro e;have hc:out.contains l[j]=true:=dr.2 e;have ah:b=true:=hb.trans hc;rw[ah]at w;cases w
         refine⟨(j+1,out++[l[j]],_),⟨?_,aa F I,?_,?_,q1⟩,?_,[0],rfl,?_⟩
         ·simp only;omega
         ·simp only;rw[bU o];exact hs
         ·simp only;rw[bX h6];intro e d;rcases bJ.1 d with d|d
          ·exact⟨by simp[(c e d).1],(c e d).2⟩
          ·simp at d;subst d;exact⟨yS,F⟩
         ·simp only;omega
         exact yc)
       |(have w:A.not b=false:=yA
         have I:l[j]∈out:=by rw[Y]at w;rw[E]at hb;have:b=true:=yU w;rw[this]at hb;exact dr.1 hb.symm
         refine⟨(j+1,out,r),⟨?_,m,hs,?_,hr⟩,?_,[0],rfl,?_⟩
         ·simp only;omega
         ·simp only;rw[bX h6];intro e d;rcases bJ.1 d with d|d
          ·exact c e d
          ·simp at d;subst d;exact⟨I,F⟩
         ·simp only;omega
         (cbv;repeat' apply bw);all_goals try first|trivial|rfl|(rw[X.a];rfl)))
    |skip
  ·have h6:j=n:=gY X.a i h1;rw[h6,G,bF]at c;refine p1 ?_;exact⟨(k+1,out,r),⟨yP,m.next o (λe d=>c e (by rw[hl,<-P];exact d)),hr⟩,yP,[0],rfl,yc⟩
 ·have h5:k=out.length:=gY X.a u h1;rw[h5]at m;have ap:1<=out.length:=by have:=m.mem;exact sK this
  have b1:A.fU (A.len r) (A.len r):=by rw[X.a,u];simp only[SD];omega
  have b2:A.fU 1 (A.len r):=by rw[X.a,u];simp only[SD];omega
  have H:A.part r 1 (A.len r)=bH encS (out.drop 1):=by rw[X.a,hr,cT];have:=mi (f:=encS) (l:=out) (a:=1) (b:=out.length);rw[cG yS]at this;simpa using this
  have q:=h (out.drop 1) _ (by
   constructor
   ·intro e;exact absurd rfl (m.last _ e)
   ·intro e;exact absurd e m.fin) (by rw[mL];omega) H
  cbv;repeat' (first|apply bw|exact zf|(intro J;cbv)|apply bG)
  all_goals first|exact b1|exact b2|exact q|skip
end Go.VC.cK
namespace Go.VC
section
variable {l env:List IF}{x:IF}{q:S}{o:Option S}
def wU(l:List IF)(k:Nat):Option S:=if k=0 then none else(l[k-1]?).map IF.path
def NG{k:Nat}(h:k<l.length):wU l (k+1)=some l[k].path:=by unfold wU;rw[if_neg yO];simp[h]
def QF(h:x.path=q):mB env (some q) (x::l)=(x.path,5):=by rw[mB,if_pos h]
def QG(h:¬x.path=q)(J:slt x.path q=true):mB env (some q) (x::l)=(x.path,1):=by rw[mB,if_neg h,if_pos J]
def Ot(h:∀q,o=some q->¬x.path=q/\slt x.path q=false):mB env o (x::l)=if(iA env x.path).2≠0 then(x.path,(iA env x.path).2)else mB env (some x.path) l:=by
 cases o with
 |none=>rw[mB]
 |some q=>rw[mB,if_neg (h q rfl).1,if_neg (by rw[(h q rfl).2];decide)]
def LW:mB env o []=([],0):=by cases o<;>rfl
end
end Go.VC
namespace Go.VC.cK
open Go Go.VC Go.Proofs
def ZY{env:List IF}{b:D}(w:b=bH dC env)(G:dW env)(R:∀i∈env,i.fit)(aa:(env.map IF.wt).sum<=268435456){K:PV->List Ob->Prop}(h:∀(s:S)(r:Int),(s,r)=nL env->K (.tup [.str s,.int .i64 r]) []):
 FT 30 [] [.lst 51 b] K:=by
 have hn:=G.1;unfold nL at h;refine en YX Tryz.func30 λA C L X=>?_;have Y:=fz X.a;have Z:=mI X.a;have da:=Dh X.a;have m:=Dg X.a;have N:=Uo X.a;obtain⟨c,t,a⟩:=lenOf w;have n:A.lt 64 (A.len b)=decide (64<env.length):=by rw[da,X.a,a,cm];simp only[decide_eq_true_eq,bz];omega
 refine p2 (λJ=>?_) (λJ=>?_)
 ·have z:A.lt 64 (A.len b)=true:=J;rw[n]at z;exact h [] 7 (by rw[if_pos (yU z)])
 have z:A.lt 64 (A.len b)=false:=J;rw[n]at z;rw[if_neg (yU z)]at h;clear z J n;refine lu X (λk=>k<=c/\mB env none env=mB env (wU env k) (env.drop k)) (λk=>c-k) 0 ⟨bD _,rfl⟩ (λ(k:Nat)=>[(4,.int .i64 k)]) ?_;rintro k ⟨hk,d⟩;cbv;constructor<;>intro h1
 ·have h5:k<env.length:=lY X.a a h1;have j:=(mA X.a w h5).1;have I:=iX X.a w h5;have y:=jX X.a h5;have O:∀(r:Int),r≠0->mB env none env=(env[k].path,r)->K (.tup [.str (A.bL (A.cell b (br k) 0)),.int .i64 r]) []:=λr hr e=>by rw[j];exact h _ _ (by rw[e,tG (by exact hr)])
  have ac:=NG h5;have g1:A.lt 0 (br k)=decide (0<k):=by rw[da,cm];simp only[decide_eq_true_eq,bz];omega
  have u:1<=k->A.sub (br k) 1=br (k-1):=λe=>by rw[X.a,iK];simp only[bz];omega
  have E:A.inr .i64 (A.sub (br k) 1):=by rw[X.a,dK,iK];simp only[bz];omega
  have v:A.lt 0 (br k)=true->A.idx (A.sub (br k) 1) (A.len b)/\∃q,wU env k=some q/\A.bL (A.cell b (A.sub (br k) 1) 0)=q:=λe=>by
   rw[g1]at e;have e:1<=k:=by have:=of_decide_eq_true e;omega
   have h6:k-1<env.length:=yO;rw[u e];refine⟨by rw[X.a,w];exact cP h6,env[k-1].path,?_,(mA X.a w h6).1⟩;unfold wU;rw[if_neg yO];simp[h6]
  have ab:A.lt 0 (br k)=false->wU env k=none:=λe=>by
   rw[g1]at e;have e:k=0:=by have:=of_decide_eq_false e;omega
   unfold wU;rw[if_pos e]
  rw[bM h5]at d;clear h1;cbv;repeat' (first|apply bw|exact zf|(intro J;cbv)|apply bG|(refine X.call (ZJ w G R λs r W=>?_);cbv))
  all_goals try first|exact I|exact y|exact E|exact(v yA).1
  all_goals first
   |(exfalso
     have g:A.lt 0 (br k)=true:=yA;have f:A.lt 0 (br k)=false:=yA;rw[g]at f;cases f;done)
   |(have g:A.lt 0 (br k)=true:=yA
     have f:A.seq (A.bL (A.cell b (A.sub (br k) 1) 0)) (A.bL (A.cell b (br k) 0))=true:=yA;obtain⟨_,q,p1,p2⟩:=v g;rw[m,p2,j]at f;exact O 5 yD (by rw[d,p1,QF (eq_of_beq f).symm]))
   |(have g:A.lt 0 (br k)=true:=yA
     have f:A.seq (A.bL (A.cell b (A.sub (br k) 1) 0)) (A.bL (A.cell b (br k) 0))=false:=yA;have T:A.slt (A.bL (A.cell b (br k) 0)) (A.bL (A.cell b (A.sub (br k) 1) 0))=true:=yA;obtain⟨_,q,p1,p2⟩:=v g;rw[m,p2,j]at f;rw[N,p2,j]at T;exact O 1 yD (by rw[d,p1,QG (λe=>(beq_eq_false_iff_ne.1 f) e.symm) T]))
   |(have hC:∀q,wU env k=some q->¬env[k].path=q/\slt env[k].path q=false:=by
      first
       |(have g:A.lt 0 (br k)=false:=yA
         intro q Q;rw[ab g]at Q;cases Q;done)
       |(have g:A.lt 0 (br k)=true:=yA
         have f:A.seq (A.bL (A.cell b (A.sub (br k) 1) 0)) (A.bL (A.cell b (br k) 0))=false:=yA;have T:A.slt (A.bL (A.cell b (br k) 0)) (A.bL (A.cell b (A.sub (br k) 1) 0))=false:=yA;obtain⟨_,q,p1,p2⟩:=v g;rw[m,p2,j]at f;rw[N,p2,j]at T;intro q' U;rw[p1]at U;cases U;exact⟨λe=>(beq_eq_false_iff_ne.1 f) e.symm,T⟩)
     rw[Ot hC]at d;have ae:r=(iA env env[k].path).2:=by rw[<- j,<-W]
     rw[<- ae]at d
     first
      |(have z:A.not (A.eq r 0)=true:=yA
        rw[Y,Z]at z;have z:r≠0:=yU z;rw[if_pos z]at d;exact O _ z d)
      |(have z:A.not (A.eq r 0)=false:=yA
        rw[Y,Z]at z;rw[if_neg (yU z),<-ac]at d;refine⟨k+1,⟨yO,d⟩,yO,?_⟩
        (cbv;repeat' apply bw);all_goals try first|trivial|rfl|(rw[X.a];rfl)))
   |skip
 ·have h5:k=c:=gY X.a a h1;rw[h5,t,bZ,LW]at d;have M:=(CP (env:=env) (l:=env) (p:=none) (by rw[d])).2.2;rw[d,wh rfl]at h;clear d hk h5;cbv;refine lu X (λk=>k<=c/\gQ (Gs env) IF.path env=gQ (Gs env) IF.path (env.drop k)) (λk=>c-k) 0 ⟨bD _,rfl⟩ (λ(k:Nat)=>[(7,.int .i64 k)]) ?_;clear h1;rintro k ⟨hk,d⟩;cbv;constructor<;>intro h1
  ·have h5:k<env.length:=lY X.a a h1;have j:=(mA X.a w h5).1;have I:=iX X.a w h5;have y:=jX X.a h5;have O:gQ (Gs env) IF.path env=(env[k].path,14)->K (.tup [.str (A.bL (A.cell b (br k) 0)),.int .i64 14]) []:=λe=>by rw[j];exact h _ _ (by rw[e])
   rw[bM h5,gQ]at d;clear h1;refine p1 ?_;refine X.call (ZI w G aa M λl r hl ah hr=>?_);have hl:l.getLast? =some env[k].path↔LR (zw env) env[k].path env[k].path:=by rw[<- j];exact hl
   obtain⟨nl,B⟩:∃nl,nl=l.length:=⟨_,rfl⟩;have H:A.len r=br nl:=by rw[B];exact gr X.a hr
   have h0:A.lt 0 (A.len r)=decide (0<l.length):=by rw[H,da,B,cm];simp only[decide_eq_true_eq,bz];omega
   have E:A.inr .i64 (A.sub (A.len r) 1):=by rw[H,X.a,dK,iK];simp only[bz];omega
   have F:A.lt 0 (A.len r)=true->A.idx (A.sub (A.len r) 1) (A.len r)/\l.getLast? =some (A.bL (A.cell r (A.sub (A.len r) 1) 0)):=λe=>by
    rw[h0]at e;have e:=of_decide_eq_true e;have h6:l.length-1<l.length:=yO;have u:A.sub (A.len r) 1=br (l.length-1):=by rw[H,X.a,iK,B];simp only[bz];omega
    rw[u];refine⟨by rw[X.a,hr];exact cP h6,?_⟩;rw[jR X.a hr h6,kG,bB h6]
   cbv;repeat' (first|apply bw|exact zf|(intro J;cbv)|apply bG)
   all_goals try first|exact I|exact y|exact E|exact(F yA).1
   all_goals (
    have P:Gs env env[k]=14/\l.getLast? =some env[k].path\/Gs env env[k]=0/\¬l.getLast? =some env[k].path:=by
     unfold Gs;by_cases e:LR (zw env) env[k].path env[k].path
     ·exact .inl ⟨if_pos e,hl.2 e⟩
     ·exact .inr ⟨if_neg e,λe2=>e (hl.1 e2)⟩)
   all_goals first
    |(have g:A.lt 0 (A.len r)=true:=yA
      have f:A.seq (A.bL (A.cell r (A.sub (A.len r) 1) 0)) (A.bL (A.cell b (br k) 0))=true:=yA;rw[m,j]at f;have hg:=(F g).2;rw[eq_of_beq f]at hg;rcases P with⟨e1,_⟩|⟨_,e2⟩
      ·exact O (by rw[d,e1,if_pos yD])
      ·exact absurd hg e2)
    |(have V:¬l.getLast? =some env[k].path:=by
       first
        |(have g:A.lt 0 (A.len r)=true:=yA
          have f:A.seq (A.bL (A.cell r (A.sub (A.len r) 1) 0)) (A.bL (A.cell b (br k) 0))=false:=yA;rw[m,j]at f;intro e;rw[(F g).2]at e;rw[fF e]at f;simp at f;done)
        |(have g:A.lt 0 (A.len r)=false:=yA
          rw[h0]at g;have g:=of_decide_eq_false g;have:l=[]:=cz yO;rw[this];simp;done)
      rcases P with⟨_,e2⟩|⟨e1,_⟩
      ·exact absurd e2 V
      ·rw[e1,if_neg yD]at d;exact⟨k+1,⟨yO,d⟩,yO,yc⟩)
    |skip
  ·have h5:k=c:=gY X.a a h1;rw[h5,t,bZ]at d;have q:=h [] 0 (by rw[d];rfl);cbv;exact q
def Vi:eE:={tt:=tt,n:=27,gK:=YW.gK,own:=[5]}
def ZX{l:List Pm}{d:D}(hd:d=bH ew l)(hl:l.length<=1048576){K:PV->List Ob->Prop}(h:∀r,r=bH ew (qu l)->K (.lst 56 r) []):
 FT 31 [] [.lst 56 d] K:=by
 refine en Vi Tryz.func31 λA C L X=>?_;obtain⟨b,c,a⟩:=lenOf hd;cbv;refine lP X (λy=>y.1<=b/\y.2=bH ew (qu (l.take y.1))) (λy=>b-y.1) (0,A.lit []) ⟨bD _,yX⟩ [0] (λ(y:Nat×D)=>⟨[(4,.int .i64 y.1),(3,.row 56 0),(0,.lst 56 d)],[.row 56 y.2 true]⟩) ?_;rintro⟨i,r⟩ ⟨t,hr⟩;simp only at t hr;cbv;constructor<;>intro h1
 ·have h5:i<l.length:=lY X.a a h1;obtain⟨p,v,j⟩:=kB X.a hd h5;have f:=iX X.a hd h5;have e:=jX X.a h5;have s:∀row:List D,A.fU (A.add (A.len r) (A.len (A.lit [row]))) 4294967296:=λrow=>by rw[X.a,hr];simp only[SD,qu,bQ,cZ];omega
  have e1:A.app r (A.lit [[.str (A.bL (A.cell d (br i) 0)),.int 0,.int (A.asInt (A.cell d (br i) 2)),.str (A.bL (A.cell d (br i) 3)),.str (A.bL (A.cell d (br i) 4)),A.cell d (br i) 5,A.cell d (br i) 6]])=bH ew (qu (l.take (i+1))):=by obtain⟨u,m,g,o,n⟩:=j;rw[p,u,m,g,o,n,X.a,hr,bX h5];unfold qu;rw[cg];refine ku (congrArg (λz=>Std.app _ (Std.lit [z])) ?_) (cx (k:=[(⟨l[i].name,0,l[i].bound⟩:Pm)]));unfold ew;rw[dI]
  clear h1;cbv;repeat' (first|apply bw|exact zf|(intro J;cbv)|apply bG)
  all_goals try first|exact f|exact e|exact s _
  exact⟨(i+1,_),⟨yP,e1⟩,yP,[0],rfl,yc⟩
 ·have h5:i=b:=gY X.a a h1;have q:=h r (by rw[hr,h5,c,bF]);cbv;exact q
def NU:(∀{env:List IF}{c:D}(x:c=bH dC env)(j:dW env)(g:∀ i∈env,i.fit)(w:(env.map IF.wt).sum<=268435456)(hT:(nL env).2=0->∃ C,Il env (mo env []) C){K:PV->List Ob->Prop}(h:∀ (a b:S) (r:Int),(a,b,r)=pM env->K (.tup [.str a,.str b,.int .i64 r]) []),FT 14 [] [.lst 51 c] K)/\
 (∀{env:List IF}{c:D}(x:c=bH dC env)(j:dW env)(g:∀ i∈env,i.fit)(w:(env.map IF.wt).sum<=268435456)(hT:(nL env).2=0->∃ C,Il env (mo env []) C){K:PV->List Ob->Prop}(h:∀ (a b:S) (r:Int),(a,b,r)=pM env->K (.tup [.str a,.str b,.int .i64 r]) []),FT 13 [] [.lst 51 c] K):=by
 refine⟨?_,?_⟩;have t:=trivial
 rotate_left
 have zB:=trivial
 rotate_left
 all_goals (
  intro env c x j g w hT K h
  first
   |(have v:=t
     refine FC.enter (G:=g14) eX mixed ⟨Tryz.func14,by rfl,rfl⟩ rfl rfl rfl ?_)
   |(refine FC.enter (G:=g13) eX mixed ⟨Tryz.func13,by rfl,rfl⟩ rfl rfl rfl ?_)
  intro A C L X;have Y:=fz X.a;have Z:=mI X.a;have H:=Dh X.a;obtain⟨d,N,l⟩:=lenOf x;cbv
  first
   |(have v:=t
     refine X.call (ZY x j g w λs r I=>?_))
   |(refine X.call (ZZ x j g w λs r I=>?_))
  have R:A.not (A.eq r 0)=decide (¬ (nL env).2=0):=by rw[Y,Z,<-I,cm];simp
  by_cases e:(nL env).2=0
  rotate_left
  ·have R:=R.trans (decide_eq_true e);have q:=h s [] r (by rw[xV e,<-I]);cbv;repeat' (first|apply bw|exact zf|(intro J;first|exact yB R J|cbv)|apply bG)
   exact q
  have R:=R.trans (decide_eq_false (λf=>f e));have hE:=LX e;obtain⟨C0,ae⟩:=hT e;rw[AK e]at h;cbv;repeat' (first|apply bw|exact zf|(intro J;first|exact yB R J|cbv)|apply bG)
  first
   |(have v:=t
     refine X.loop (λ(i:Nat)=>⟨[(7,.int .i64 i),(0,.lst 51 c)],[]⟩) (λi=>i<=d/\qZ env env=qZ env (env.drop i)) (λi=>d-i) 0 ⟨bD _,rfl⟩ ?_ ?_)
   |(refine X.iC (λ(i:Nat)=>⟨[(22,.int .i64 i),(21,.int .i64 (A.len c)),(20,.lst 51 c),(0,.lst 51 c)],[]⟩) (λi=>i<=d/\qZ env env=qZ env (env.drop i)) (λi=>d-i) 0 ⟨bD _,rfl⟩ ?_ ?_)
  ·skip
   first
    |(have v:=t
      skip)
    |(refine⟨[],rfl,?_⟩)
   exact yc
  rintro i ⟨hi,V⟩;cbv;constructor<;>intro h1
  ·have h5:i<env.length:=lY X.a l h1;obtain⟨x0,x1,_⟩:=mA X.a x h5;have E:=iX X.a x h5;have ag:A.inr .i64 (A.add (br i) 1):=by rw[X.a];exact ek h5 (by have:=j.1;omega)
   have P:=bx h5;rw[bM h5]at V;obtain⟨dT,s8⟩:∃dT,dT=A.cell c (br i) 1:=⟨_,rfl⟩;have n:A.cell c (br i) 1=bH gv env[i].types:=x1;obtain⟨p,M⟩:∃p,p=env[i].types.length:=⟨_,rfl⟩;have o:A.len (A.cell c (br i) 1)=br p:=by rw[n,X.a,cT,M];rfl
   have ap:p<=4294967295:=by rw[M];exact(j.2 _ P).nt
   clear h1;cbv
   first
    |(have v:=t
      refine X.loop (λ(k:Nat)=>⟨[(8,.int .i64 k),(7,.int .i64 i),(0,.lst 51 c)],[]⟩) (λk=>k<=p/\qY env env[i].path env[i].types=qY env env[i].path (env[i].types.drop k)) (λk=>p-k) 0 ⟨bD _,rfl⟩ ?_ ?_
      ·exact yc)
    |(repeat' (first|apply bw|exact zf|(intro J;cbv)|apply bG)
      all_goals try exact E
      refine X.iC (λ(k:Nat)=>⟨[(29,.int .i64 k),(28,.int .i64 (A.len (A.cell c (br i) 1))),(27,.lst 45 (A.cell c (br i) 1)),(22,.int .i64 i),(21,.int .i64 (A.len c)),(20,.lst 51 c),(8,.box 0 0),(0,.lst 51 c)],[.box [.str (A.bL (A.cell c (br i) 0)),.lst 45 (A.cell c (br i) 1),.lst 99 (A.cell c (br i) 2),.lst 141 (A.cell c (br i) 3),.lst 152 (A.cell c (br i) 4)]]⟩) (λk=>k<=p/\qY env env[i].path env[i].types=qY env env[i].path (env[i].types.drop k)) (λk=>p-k) 0 ⟨bD _,rfl⟩ ?_ ?_
      ·exact⟨[0],rfl,yc⟩)
   rintro k ⟨hk,m⟩;have ah:A.lt (br k) (A.len (A.cell c (br i) 1))=true->k<env[i].types.length:=λz=>by rw[o,H]at z;have:=of_decide_eq_true z;simp only[bz]at this;omega
   by_cases da:A.lt (br k) (A.len (A.cell c (br i) 1))=true
   ·have h6:=ah da;obtain⟨y0,y1,y2,y3⟩:=nx X.a n h6;have F:A.idx (br k) (A.len (A.cell c (br i) 1)):=by rw[n,X.a];exact cP h6
    have aa:=jX X.a h6;have U:=bx h6;obtain⟨C1,y,B,u⟩:=ae.Px hE g P U;have ao:=Ou hE P U;rw[bM h6]at m
    first
     |(have v:=t
       have O:=Go.VC.uc.op (vh y B u);have ac:(qu env[i].types[k].params).length<=4294967295:=by unfold qu;rw[bQ];omega)
     |(have O:=vh y B u)
    cbv
    first
     |(have v:=t
       repeat' (first|apply bw|exact zf|(intro J;first|exact yB da J|cbv)|apply bG|(refine X.call (ZX y1 yO λrc ad=>?_);cbv)))
     |(repeat' (first|apply bw|exact zf|(intro J;first|exact yB da J|cbv)|apply bG))
    all_goals try first|exact E|exact F
    first
     |(have v:=t
       refine X.call (F8 x j ad ac y.op B u O y2 y3 λb hb=>?_))
     |(refine X.call (F7 x j y1 yO y B u O y2 y3 λb hb=>?_))
    have hb:b=H4 env env[i].types[k].params env[i].types[k].lower env[i].types[k].upper:=hb;have Q:H4 env env[i].types[k].params env[i].types[k].lower env[i].types[k].upper=false->K (.tup [.str (A.bL (A.cell c (br i) 0)),.str (A.bL (A.cell (A.cell c (br i) 1) (br k) 0)),.int .i64 13]) []:=λz=>by rw[x0,y0];exact h _ _ _ (by rw[V,Kq (m.trans (Kp z))];rfl)
    cbv;repeat' (first|apply bw|exact zf|(intro J;cbv)|apply bG)
    all_goals try first|exact E|exact F|exact aa
    all_goals first
     |(have z:A.not b=true:=yA
       have z:H4 env env[i].types[k].params env[i].types[k].lower env[i].types[k].upper=false:=by rw[Y,hb]at z;simpa using z
       exact Q z)
     |(have z:A.not b=false:=yA
       have z:H4 env env[i].types[k].params env[i].types[k].lower env[i].types[k].upper=true:=by rw[Y,hb]at z;simpa using z
       first
        |(have v:=t
          refine⟨k+1,⟨yO,m.trans (uu z)⟩,yO,?_⟩)
        |(refine⟨k+1,⟨yO,m.trans (uu z)⟩,yO,[0],rfl,?_⟩)
       exact yc)
     |trace_state
   ·have W:A.lt (br k) (A.len (A.cell c (br i) 1))=false:=yU da
    have ab:k=p:=by
     by_cases h6:k<p
     ·exact absurd (by rw[o,H];simpa using h6) da
     ·omega
    have T:qY env env[i].path env[i].types=none:=by rw[m,ab,M,bZ,qY]
    cbv;repeat' (first|apply bw|exact zf|(intro J;first|exact yB W J|cbv)|apply bG)
    all_goals try first|exact E|exact ag
    first
     |(have v:=t
       refine⟨i+1,⟨yO,V.trans (Hz T)⟩,yO,?_⟩)
     |(refine⟨i+1,⟨yO,V.trans (Hz T)⟩,yO,[],rfl,?_⟩)
    exact yc
  ·have h5:i=d:=gY X.a l h1;have q:=h [] [] 0 (by rw[V,h5,N,bZ,qZ];rfl);cbv;exact q)
end Go.VC.cK
namespace Go.VC
def Kb{env:List IF}{a b:S}(h:(a,b,(0:Int))=pM env):(nL env).2=0:=by
 by_cases e:(nL env).2=0
 ·exact e
 ·rw[xV e]at h;have:=congrArg (λz:S×S×Int=>z.2.2) h;exact this.symm
def Il.less{env:List IF}{l a C:List Ty}(h:Il env l C)(hs:∀t∈a,t∈l):Il env a C:=⟨h.len,h.sz,λt b=>h.init t (hs t b),h.dP,h.fU⟩
structure Im (env:List IF) (ctx:List Pm) (ts:List Ty):Prop where
 e:(nL env).2=0
 Yb:∃C,Il env (mo env (ts++ctx.map Pm.bound)) C
 ctx:∀p∈ctx,∃vs,nu env vs p.bound=0
 ts:∀t∈ts,∃vs,nu env vs t=0
end Go.VC
namespace Go.VC.cK
open Go Go.VC Go.Proofs
def YI:eE:={tt:=tt,n:=110,gK:=g6.gK,own:=[45]}
def F6{env:List IF}{de:D}(he:de=bH dC env)(O:dW env)(T:∀i∈env,i.fit)(av:(env.map IF.wt).sum<=268435456)(aj:∀i∈env,(eP i).length<=4294967290){ctx:List Pm}{M:D}(hc:M=bH ew ctx)(az:ctx.length<=1048576)(ae:∀p∈ctx,p.bound.enc/\p.name.length<=1048576){ts:List Ty}{o:D}(x:o=bH cE ts)(aE:ts.length<=1048576)(ag:∀t∈ts,t.enc){F:Int}
 (hW:∀t∈mo env (ts++ctx.map Pm.bound),Wt t) (ar:(mo env (ts++ctx.map Pm.bound)).length<=4000000000) {K:PV->List Ob->Prop}
 (h:∀b,(b=true->Im env ctx ts)->K (.bool b) []):
 FT 6 [] [.lst 51 de,.lst 56 M,.lst 29 o,.int .i64 F] K:=by
 have P:=h false (λe=>yC e);refine en YI Tryz.func6 λA C L X=>?_;have Y:=fz X.a;have Z:=mI X.a;have aC:=Dh X.a;obtain⟨u,V,m⟩:=lenOf hc;obtain⟨j,Q,g⟩:=lenOf x;have U:∀(s r:Int),0<=s->s<=1000000000000000->0<=r->r<=1048576->A.inr .i64 (A.add s r):=λs r a b c d=>by rw[X.a,dK,dO];omega
 cbv;refine lP X (λy=>y.1<=j/\0<=y.2/\y.2.toNat<=1048576*y.1) (λy=>j-y.1) (0,0) ⟨bD _,yS,yS⟩ [] (λ(y:Nat×Int)=>⟨[(10,.int .i64 y.1),(9,.int .i64 y.2),(3,.int .i64 F),(2,.lst 29 o),(1,.lst 56 M),(0,.lst 51 de)],[]⟩) ?_;rintro⟨i,E⟩ ⟨S,v,N⟩;simp only at S v N;cbv;constructor<;>intro h1
 ·have h5:i<ts.length:=lY X.a g h1;have k1:=gI X.a x h5;have n:=ag _ (bx h5);have R:=n.sz;have B:=iX X.a x h5;have w:=jX X.a h5;have W:∀r:Int,r=(ts[i].size:Int)->A.inr .i64 (A.add E r):=λr hr=>U E r v yO (by rw[hr];exact cW _) (by rw[hr];exact sW.2 R);clear h1;cbv;repeat' (first|apply bw|exact zf|(intro J;cbv)|apply bG|(refine X.call (Ux _ n.le yO k1 λr hr=>?_);cbv))
  all_goals try first|exact B|exact w|exact W _ yA
  refine⟨(i+1,A.add E r),⟨yP,?_,?_⟩,yP,[],rfl,?_⟩
  ·show (0:Int)<=A.add E r;have r0:0<=r:=by rw[hr];exact cW _
   rw[X.a,dO];omega
  ·show (A.add E r).toNat<=1048576*(i+1);have r1:r<=1048576:=by rw[hr];exact sW.2 R
   rw[X.a,dO];omega
  exact yc
 have aq:E<=1099511627776:=by omega
 clear h1 S N;cbv;refine lP X (λy=>y.1<=u/\0<=y.2/\y.2.toNat<=1099511627776+1048576*y.1) (λy=>u-y.1) (0,E) ⟨bD _,v,yP⟩ [] (λ(y:Nat×Int)=>⟨[(11,.int .i64 y.1),(9,.int .i64 y.2),(3,.int .i64 F),(2,.lst 29 o),(1,.lst 56 M),(0,.lst 51 de)],[]⟩) ?_;clear v aq;rintro⟨i,E⟩ ⟨S,v,N⟩;simp only at S v N;cbv;constructor<;>intro h1
 ·have h5:i<ctx.length:=lY X.a m h1;obtain⟨k0,k1,k2⟩:=kB X.a hc h5;obtain⟨n,aM⟩:=ae _ (bx h5);have R:=n.sz;have B:=iX X.a hc h5;have w:=jX X.a h5;have W:∀r:Int,r=(ctx[i].bound.size:Int)->A.inr .i64 (A.add E r):=λr hr=>U E r v yO (by rw[hr];exact cW _) (by rw[hr];exact sW.2 R);clear h1;cbv;repeat' (first|apply bw|exact zf|(intro J;cbv)|apply bG|(refine X.call (Ux _ n.le yO k2 λr hr=>?_);cbv))
  all_goals try first|exact B|exact w|exact W _ yA
  refine⟨(i+1,A.add E r),⟨yP,?_,?_⟩,yP,[],rfl,?_⟩
  ·show (0:Int)<=A.add E r;have r0:0<=r:=by rw[hr];exact cW _
   rw[X.a,dO];omega
  ·show (A.add E r).toNat<=1099511627776+1048576*(i+1);have r1:r<=1048576:=by rw[hr];exact sW.2 R
   rw[X.a,dO];omega
  exact yc
 have au:A.fU (A.add (A.len (A.lit [])) (A.len o)) 4294967296:=by rw[X.a,x];simp only[SD];omega
 have e0:A.app (A.lit []) o=bH cE ts:=by rw[X.a,x];exact cx (l:=[])
 clear h1 S N;refine p1 ?_;refine lP X (λy=>y.1<=u/\y.2=bH cE (ts++(ctx.take y.1).map Pm.bound)) (λy=>u-y.1) (0,A.app (A.lit []) o) ⟨bD _,by simp only[e0];simp⟩ [0] (λ(y:Nat×D)=>⟨[(13,.int .i64 y.1),(12,.row 29 0),(9,.int .i64 E),(3,.int .i64 F),(2,.lst 29 o),(1,.lst 56 M),(0,.lst 51 de)],[.row 29 y.2 true]⟩) ?_;rintro⟨i,dw⟩ ⟨S,G⟩;simp only at S G;cbv;constructor<;>intro h1
 ·have h5:i<ctx.length:=lY X.a m h1;obtain⟨k0,k1,k2⟩:=kB X.a hc h5;have B:=iX X.a hc h5;have w:=jX X.a h5;have hB:∀row:List D,A.fU (A.add (A.len dw) (A.len (A.lit [row]))) 4294967296:=λrow=>by rw[X.a,G];simp only[SD,bE,bQ,cZ];omega
  have e1:A.app dw (A.lit [[.int (A.asInt (A.cell M (br i) 2)),.str (A.bL (A.cell M (br i) 3)),.str (A.bL (A.cell M (br i) 4)),A.cell M (br i) 5,A.cell M (br i) 6]])=bH cE (ts++(ctx.take (i+1)).map Pm.bound):=by obtain⟨f0,f1,f2,f3,f4⟩:=k2;rw[f0,f1,f2,f3,f4,X.a,G,bX h5,cg,<-bN];refine ku (congrArg (λz=>Std.app _ (Std.lit [z])) ?_) (cx (k:=[ctx[i].bound]));rw[dI]
  clear h1;cbv;repeat' (first|apply bw|exact zf|(intro J;cbv)|apply bG)
  all_goals try first|exact B|exact w|exact hB _
  exact⟨(i+1,_),⟨yP,e1⟩,yP,[0],rfl,yc⟩
 have h5:i=u:=gY X.a m h1;have G:dw=bH cE (ts++ctx.map Pm.bound):=by rw[G,h5,V,bF]
 clear h1 h5 S e0 au;cbv;repeat' (first|apply bw|exact zf|(intro J;cbv)|apply bG|(refine X.call (X5 he O yO λrs aH=>?_);cbv)|(refine X.call (X4 he O T aj G hW ar λb hb=>?_);cbv))
 all_goals try exact P
 have ap:b=true:=by have z:A.not b=false:=yA;rw[Y]at z;simpa using z
 obtain⟨C0,ad⟩:=hb ap;have ax:∃C,Il env (mo env []) C:=⟨C0,ad.less λt I=>by unfold mo at I ⊢;rw[ep]at I;exact dV _ I⟩;refine X.call (NU.1 he O T av (λ_=>ax) λva vb vr hv=>?_);have aK:vr=(pM env).2.2:=by rw[<- hv]
 have H:A.not (A.eq vr 0)=decide (vr≠0):=by rw[Y,Z,cm];simp
 by_cases R:vr=0
 rotate_left
 ·have H:=H.trans (decide_eq_true R);cbv;repeat' (first|apply bw|exact zf|(intro J;first|exact yB H J|cbv)|apply bG)
  all_goals exact P
 have H:=H.trans (decide_eq_false (λf=>f R));have al:(nL env).2=0:=by rw[R]at hv;exact Kb hv
 cbv;repeat' (first|apply bw|exact zf|(intro J;first|exact yB H J|cbv)|apply bG|(refine X.call (Z2 he O hc az ae λbc ak=>?_);cbv))
 all_goals try exact P
 have am:∀p∈ctx,∃vs,nu env vs p.bound=0:=by have z:A.not bc=false:=yA;exact ak (by rw[Y]at z;simpa using z)
 refine lP X (λi=>i<=j/\∀t∈ts.take i,nu env (ctx.map (·.name)) t=0) (λi=>j-i) 0 ⟨bD _,yS⟩ [] (λ(i:Nat)=>⟨[(17,.int .i64 i),(2,.lst 29 o),(1,.lst 56 M),(0,.lst 51 de)],[]⟩) ?_;rintro i ⟨S,hq⟩;cbv;constructor<;>intro h1
 ·have h5:i<ts.length:=lY X.a g h1;have k1:=gI X.a x h5;have n:=ag _ (bx h5);have ac:ts[i].size<=4294967295:=by have:=n.sz;omega
  have B:=iX X.a x h5;have w:=jX X.a h5;clear h1;cbv;repeat' (first|apply bw|exact zf|(intro J;cbv)|apply bG|(refine X.call (Uw hc yO λrn ai=>?_);cbv)|(refine X.call (Rx he O ai (by rw[bQ];omega) n.le ac n.mF k1 λr hr=>?_);cbv))
  all_goals try first|exact B|exact w|exact P
  all_goals (
   have z:A.not (A.eq r 0)=false:=yA;have z:nu env (ctx.map (·.name)) ts[i]=0:=by rw[Y,Z,hr]at z;simpa using z
   refine⟨i+1,⟨yO,?_⟩,yO,[],rfl,?_⟩
   ·rw[bX h5];intro t I;rcases bJ.1 I with I|I
    ·exact hq t I
    ·simp at I;subst I;exact z
   exact yc)
 ·have h5:i=j:=gY X.a g h1;rw[h5,Q,bF]at hq;have q:=h true (λ_=>⟨al,⟨C0,ad⟩,am,λt I=>⟨_,hq t I⟩⟩);cbv;exact q
section
variable {env:List IF}{a:D}{K:PV->List Ob->Prop}{ctx:List Pm}{s t:Ty}
def F4(k:∀{K:PV->List Ob->Prop},K (.bool true) []->FT 5 [] [] K)(g:a=bH dC env)(d:dW env)(c:∀i∈env,i.fit)(f:(env.map IF.wt).sum<=268435456)(j:∀i∈env,(eP i).length<=4294967290)
 (r:∀t∈mo env [],Wt t) (m:(mo env []).length<=4000000000) (h:K (.bool true) []):
 FT 4 [] [.lst 51 a] K:=by
 refine en g4 Tryz.func4 λA C L X=>?_;have Y:=fz X.a;have Z:=mI X.a;have n:A.not true=false:=by rw[Y];rfl
 cbv;refine X.call (k ?_);cbv;repeat' (first|apply bw|exact zf|(intro J;first|exact yB n J|cbv)|apply bG|(refine X.call (X5 g d yO λw u=>?_);cbv)|(refine X.call (X4 g d c j (ts:=[]) rfl r m λb hb=>?_);cbv))
 all_goals try exact h
 have l:b=true:=by have z:A.not b=false:=yA;rw[Y]at z;simpa using z
 have p:=hb l;refine X.call (NU.2 g d c f (λ_=>p) λa1 b1 o h1=>?_);cbv;refine X.call (NU.1 g d c f (λ_=>p) λa2 b2 r2 J=>?_);have e:=h1.trans J.symm;simp only[ey]at e;obtain⟨rfl,rfl,rfl⟩:=e;have q:∀s:S,A.seq s s=true:=λs=>by rw[Dg X.a];simp
 have v:∀s:Int,A.eq s s=true:=λs=>by rw[Z];simp
 cbv;repeat' (first|apply bw|exact zf|(intro J;first|exact yB (q a1) J|exact yB (q b1) J|cbv)|apply bG)
 all_goals (
  show K (.bool (A.eq o o)) [];rw[v];exact h)
def Im.Ut(h:Im env ctx [s,t])(b:∀i∈env,i.fit)(f:∀p∈ctx,p.bound.enc)(hs:s.enc)(j:t.enc):∃C,BV env ctx C/\s∈C/\t∈C:=by
 obtain⟨l,e⟩:=h.Yb;have g:=LX h.e
 obtain⟨C,h1,J⟩:=e.Ut (ctx:=ctx) g b (k:=[s,t]++ctx.map Pm.bound) (λu hu=>⟨eu _ hu,by
  rcases bJ.1 hu with hu|hu
  ·obtain⟨vs,c⟩:=h.ts u hu;simp at hu;rcases hu with rfl|rfl
   ·exact hs.ct c
   ·exact j.ct c
  ·obtain⟨p,d,rfl⟩:=bT.1 hu;obtain⟨vs,c⟩:=h.ctx p d;exact(f p d).ct c⟩) (λp d=>dV _ (bT.2 ⟨p,d,rfl⟩))
 exact⟨C,h1,J s yS,J t yS⟩
def YT:eE:={tt:=tt,n:=44,gK:=g3.gK}
def F3(F:∀{K:PV->List Ob->Prop},K (.bool true) []->FT 5 [] [] K)(n:a=bH dC env)(e:dW env)(f:∀i∈env,i.fit)(I:(env.map IF.wt).sum<=268435456)(w:∀i∈env,(eP i).length<=4294967290)
 {U:D} (hc:U=bH ew ctx) (T:ctx.length<=1048576) (m:∀p∈ctx,p.bound.enc/\p.name.length<=1048576) (k:s.enc) (l:t.enc)
 (hW:∀u∈mo env ([s,t]++ctx.map Pm.bound),Wt u) (H:(mo env ([s,t]++ctx.map Pm.bound)).length<=4000000000)
 {Q:Int}{a1 a2:S}{a3 a4:D}{E:Int}{b1 b2:S}{y M:D} (hs:cD s Q a1 a2 a3 a4) (j:cD t E b1 b2 y M) (h:K (.bool true) []):
 FT 3 [] [.lst 51 a,.lst 56 U,df Q a1 a2 a3 a4,df E b1 b2 y M] K:=by
 refine en YT Tryz.func3 λA C2 L X=>?_;have Y:=fz X.a;have aa:A.not false=true:=by rw[Y];rfl
 have N:A.not true=false:=by rw[Y];rfl
 have o:∀b:Bool,A.beq b b=true:=λb=>by rw[X.a];cases b<;>rfl
 have B:∀u∈[s,t],u.enc:=λu hu=>by
  simp at hu;rcases hu with rfl|rfl
  ·exact k
  ·exact l
 have P:A.lit [[.int Q,.str a1,.str a2,a3,a4],[.int E,.str b1,.str b2,y,M]]=bH cE [s,t]:=by obtain⟨f0,f1,f2,f3,f4⟩:=hs;obtain⟨g0,g1,g2,g3,g4⟩:=j;rw[X.a,f0,f1,f2,f3,f4,g0,g1,g2,g3,g4];show D.list _=D.list [cE s,cE t];rw[dI,dI]
 cbv;refine X.call (F ?_);cbv;repeat' (first|apply bw|exact zf|(intro J;first|exact yB N J|cbv)|apply bG|(refine X.call (F6 n e f I w hc T m P yS B hW H λb hb=>?_);cbv))
 all_goals try exact h
 have G:b=true:=by have z:A.not b=false:=yA;rw[Y]at z;simpa using z
 have hF:=hb G;obtain⟨C,g,d,c⟩:=Im.Ut hF f (λp hp=>(m p hp).1) k l;have v:=vh g d c;have V:=vh g c d;refine X.call (F7 n e hc yO g d c v hs j λr hr=>?_);cbv;refine X.call (F8 n e hc yO g d c v hs j λW x=>?_);obtain rfl:r=W:=hr.trans x.symm;have R:=o r;cbv;repeat' (first|apply bw|exact zf|(intro J;first|exact yB R J|cbv)|apply bG|(refine X.call (F9 n e hc yO g d c v V hs j λq hq=>?_);cbv)|(refine X.call (Z4 n e hc yO g d c v V hs j λq' O=>?_);cbv))
 all_goals (
  obtain rfl:q=q':=hq.trans O.symm;show K (.bool (A.beq q q)) [];rw[o];exact h)
end
def ZV:∀(t:Ty),Ty.le 4294967295 t->∀{p:Int}{c1 c2:S}{P U:D}{K:PV->List Ob->Prop},cD t p c1 c2 P U->(∀o e1 e2 e3 e4,cD t o e1 e2 e3 e4->K (df o e1 e2 e3 e4) [])->FT 34 [] [df p c1 c2 P U] K:=by
 refine Ty.parts λt H E=>?_;intro e p c1 c2 P U K ht h;obtain⟨t0,t1,t2,w,u⟩:=ht;have ag:=pO e;have ad:=um e;refine en YU Tryz.func34 λA C L X=>?_;obtain⟨V,O,q⟩:=lenOf w;obtain⟨W,I,v⟩:=lenOf u;cbv;refine X.cut (λ(z:D×D)=>⟨[(1,.box 0 0),(2,.box 1 0)],[.box [.int .i64 p,.str c1,.str c2,.row 29 2,.row 42 3],.box [.undef,.undef,.undef,.undef,.undef],.row 29 z.1 true,.row 42 z.2 true]⟩) (λz=>z.1=bH cE t.ar/\z.2=bH fq t.fl) ?_ ?_
 ·cbv;repeat' (first|apply bw|exact zf|(intro J;cbv)|apply bG|(refine X.call (K7.1 w yO λr1 Q=>?_);cbv)|(refine X.call (K7.2.1 u yO λr2 B=>?_);cbv))
  all_goals (refine⟨(r1,r2),⟨Q,B⟩,[0,1,2,3],rfl,?_⟩;exact yc)
 rintro⟨s,r⟩ ⟨a,b⟩;simp only at a b;obtain⟨g,M,d⟩:=lenOf a;obtain⟨f,F,c⟩:=lenOf b;cbv;refine lP X (λx=>x<=g) (λx=>g-x) 0 (bD _) [0,1,2,3] (λ(x:Nat)=>⟨[(18,.int .i64 x),(17,.int .i64 (A.len s)),(16,.row 29 2),(1,.box 0 0),(2,.box 1 0)],[.box [.int .i64 p,.str c1,.str c2,.row 29 2,.row 42 3],.box [.undef,.undef,.undef,.undef,.undef],.row 29 s true,.row 42 r true]⟩) ?_;rintro j hj;cbv;constructor<;>intro h1
 ·have h5:j<t.ar.length:=lY X.a d h1;have y:=gI X.a a h5;have T:=iX X.a a h5;have N:=jX X.a h5;refine p1 ?_;refine X.call (H _ (bx h5) (pP e _ (bx h5)) y λo e1 e2 e3 e4 R=>?_);obtain⟨i,n,m,l,k⟩:=R;have G:A.o4 s (br j) 0 [.int o,.str e1,.str e2,e3,e4]=s:=oZ X.a a h5 (by rw[dI,i,n,m,l,k];rfl);refine p1 ?_;exact⟨j+1,yO,yO,[0,1,2,3],rfl,yc⟩;all_goals first|exact G|skip
 cbv;refine lP X (λx=>x<=f) (λx=>f-x) 0 (bD _) [0,1,2,3] (λ(x:Nat)=>⟨[(33,.int .i64 x),(32,.int .i64 (A.len r)),(31,.row 42 3),(1,.box 0 0),(2,.box 1 0)],[.box [.int .i64 p,.str c1,.str c2,.row 29 2,.row 42 3],.box [.undef,.undef,.undef,.undef,.undef],.row 29 s true,.row 42 r true]⟩) ?_;rintro j hj;cbv;constructor<;>intro h1
 ·have h5:j<t.fl.length:=lY X.a c h1;have y:=kE X.a b h5;have T:=iX X.a b h5;have N:=jX X.a h5;refine p1 ?_;refine X.call (E _ (bx h5) (qT e _ (bx h5)) y λo e1 e2 e3 e4 R=>?_);obtain⟨i,n,m,l,k⟩:=R;have G:A.o4 r (br j) 1 [.int o,.str e1,.str e2,e3,e4]=r:=oZ X.a b h5 (by rw[mh,i,n,m,l,k];rfl);refine p1 ?_;exact⟨j+1,yO,yO,[0,1,2,3],rfl,yc⟩;all_goals first|exact G|skip
 cbv;exact h _ _ _ _ _ ⟨t0,t1,t2,a,b⟩
def Z3{env:List IF}{l:D}(p:l=bH dC env)(d:dW env){ctx:List Pm}{f:D}(hc:f=bH ew ctx)(e:ctx.length<=4294967295){t u:Ty}(da:Ty.le 4294967295 t)(c:Ty.le 4294967295 u)(b1:jf env ctx t=some u)(b2:jf env ctx u=none)
 {o:Int}{c1 c2:S}{i n:D} (q:cD t o c1 c2 i n) {K:PV->List Ob->Prop} (h:∀a e1 e2 e3 e4,cD u a e1 e2 e3 e4->K (df a e1 e2 e3 e4) []):
 FT 19 [] [.lst 51 l,.lst 56 f,df o c1 c2 i n] K:=by
 refine en (cf 21) Tryz.func19 λA C L X=>?_;have Y:=fz X.a;have g:A.not false=true:=by rw[Y];rfl
 have j:A.not true=false:=by rw[Y];rfl
 cbv;refine lP X (λy=>(y.2=1/\cD t y.1.1 y.1.2.1 y.1.2.2.1 y.1.2.2.2.1 y.1.2.2.2.2)\/(y.2=0/\cD u y.1.1 y.1.2.1 y.1.2.2.1 y.1.2.2.2.1 y.1.2.2.2.2)) (λy=>y.2) ((o,c1,c2,i,n),1) (.inl ⟨rfl,q⟩) [0,1] (λ(y:(Int×S×S×D×D)×Nat)=>⟨[(5,.box 0 0),(6,.box 1 0),(0,.lst 51 l),(1,.lst 56 f)],[.box [.int .i64 y.1.1,.str y.1.2.1,.str y.1.2.2.1,.lst 29 y.1.2.2.2.1,.lst 42 y.1.2.2.2.2],.box [.undef,.undef,.undef,.undef,.undef]]⟩) ?_;rintro⟨⟨d0,v,d2,s,w⟩,m⟩ (⟨k,hd⟩|⟨k,hd⟩)
 ·simp only at k hd;cbv;refine X.call (Wa p d hc e da hd λa e1 e2 e3 e4 b hu hb=>?_);rw[b1]at hu hb;obtain rfl:b=true:=hb;have hu:=hu rfl;cbv;repeat' (first|apply bw|exact zf|(intro J;first|exact yB j J|cbv)|apply bG)
  exact⟨((a,e1,e2,e3,e4),0),.inr ⟨rfl,hu⟩,yP,[0,1],rfl,yc⟩
 ·simp only at k hd;cbv;refine X.call (Wa p d hc e c hd λa e1 e2 e3 e4 b hu hb=>?_);rw[b2]at hb;obtain rfl:b=false:=hb;cbv;repeat' (first|apply bw|exact zf|(intro J;first|exact yB g J|cbv)|apply bG|(refine X.call (ZV u c hd λg0 g1 g2 g3 g4 r=>?_);cbv))
  all_goals exact h _ _ _ _ _ r
section
variable {K:PV->List Ob->Prop}
def X3{d:D}(h:K (df 6 [] [] (.list []) d) []):FT 15 [] [.lst 42 d] K:=by refine en (cf 5) Tryz.func15 λA C L X=>?_;cbv;exact h
def W8{s:S}(h:K (df 10 [97,47,118,49] s (.list []) (.list [])) []):FT 16 [] [.str s] K:=by refine en (cf 5) Tryz.func16 λA C L X=>?_;cbv;exact h
def W6{t:Ty}{e:Int}{c1 c2:S}{b c:D}(k:cD t e c1 c2 b c)(h:∀d,d=bH fq [Fe.mk [110,101,120,116] t false]->K (df 6 [] [] (.list []) d) []):
 FT 17 [] [df e c1 c2 b c,.cR [.cy 15 []] 0] K:=by
 have a:∀A:qC,A=Std->A.lit [[.str [110,101,120,116],.int e,.str c1,.str c2,b,c,.bool false]]=bH fq [Fe.mk [110,101,120,116] t false]:=λA l=>by obtain⟨m,i,f,j,g⟩:=k;rw[l,m,i,f,j,g];show D.list _=D.list [fq _];unfold fq;rw[dI];rfl
 refine en (cf 9) Tryz.func17 λA C L X=>?_;have q:=h _ (a A X.a);clear a h;cbv;refine X.call (X3 ?_);cbv;exact q
end
def F5(b:dW jI)(q:∀i∈jI,i.fit)(N:(jI.map IF.wt).sum<=268435456){K:PV->List Ob->Prop}(h:K (.bool true) []):FT 5 [] [] K:=by
 refine en g5 Tryz.func5 λA C L X=>?_;have Y:=fz X.a;cbv;repeat' (first|apply bw|exact zf|(intro J;cbv)|apply bG|(refine X.call (W8 ?_);cbv))
 refine X.call (W6 (t:=qh [76]) ⟨rfl,rfl,rfl,rfl,rfl⟩ λG p=>?_);cbv;refine X.call (W8 ?_);cbv;refine X.call (W6 (t:=qh [77]) ⟨rfl,rfl,rfl,rfl,rfl⟩ λd2 e=>?_);have y2:cD (EZ (qh [77])) 6 [] [] (.list []) d2:=⟨rfl,rfl,rfl,rfl,e⟩;have R:cD mU 6 [] [] (.list []) G:=⟨rfl,rfl,rfl,rfl,p⟩;clear p e;cbv;refine X.call (W6 y2 λF m=>?_);have y3:cD nY 6 [] [] (.list []) F:=⟨rfl,rfl,rfl,rfl,m⟩;clear m;refine p1 ?_
 refine X.cut (λ(z:D×D×D)=>⟨[(10,.box 5 0),(9,.box 4 0),(8,.lst 51 z.1),(7,.box 3 0),(6,.box 2 0),(4,.cy 16 []),(2,.box 1 0),(1,.box 0 0)],[.box [.int .i64 2,.str [],.str [],.lst 29 (.list []),.lst 42 (.list [])],.box [.int .i64 4,.str [],.str [],.lst 29 (.list []),.lst 42 (.list [])],.box [.int .i64 6,.str [],.str [],.lst 29 (.list []),.lst 42 G],.box [.int .i64 6,.str [],.str [],.lst 29 (.list []),.lst 42 F],.box [.int .i64 6,.str [],.str [],.lst 29 (.list []),.lst 42 z.2.1],.box [.int .i64 6,.str [],.str [],.lst 29 (.list []),.lst 42 z.2.2]]⟩)
  (λz=>z.1=bH dC jI/\cD BD 6 [] [] (.list []) z.2.1/\cD BC 6 [] [] (.list []) z.2.2) ?_ ?_
 ·have V:A.lit [[D.str [97,47,118,49],A.lit [[D.str [76],D.list [],D.int 6,D.str [],D.str [],D.list [],G,D.int 6,D.str [],D.str [],D.list [],G],[D.str [77],D.list [],D.int 6,D.str [],D.str [],D.list [],F,D.int 6,D.str [],D.str [],D.list [],F],[D.str [78],D.list [],D.int 2,D.str [],D.str [],D.list [],D.list [],D.int 0,D.str [],D.str [],D.list [],D.list []]],D.list [],D.list [],D.list []]]=bH dC jI:=by obtain⟨_,_,_,_,f1⟩:=R;obtain⟨_,_,_,_,f3⟩:=y3;rw[X.a,f1,f3];rfl
  have hb:cD BD 6 [] [] (.list []) (A.lit [[.str [97],.int 2,.str [],.str [],.list [],.list [],.bool false],[.str [98],.int 4,.str [],.str [],.list [],.list [],.bool false]]):=⟨rfl,rfl,rfl,rfl,yX⟩;have c:cD BC 6 [] [] (.list []) (A.lit [[.str [97],.int 2,.str [],.str [],.list [],.list [],.bool false]]):=⟨rfl,rfl,rfl,rfl,yX⟩;cbv;repeat' (first|apply bw|exact zf|(intro J;cbv)|apply bG|(refine X.call (X3 ?_);cbv))
  all_goals first
   |(exact⟨(_,_,_),⟨V,hb,c⟩,[0,1,3,4,5,6],rfl,yc⟩
     done)
   |(exact⟨(_,_,_),⟨V,hb,c⟩,[0,1,3,4,6,5],rfl,yc⟩
     done)
 rintro⟨de,db,dj⟩ ⟨a,hb,c⟩;simp only at a hb c;cbv;have U:cD eF 8 [] [] (A.lit [[D.int 2,D.str [],D.str [],D.list [],D.list []]]) (A.lit [[D.str [97],D.int 0,D.str [],D.str [],D.list [],D.list [],D.bool false],[D.str [98],D.int 2,D.str [],D.str [],D.list [],D.list [],D.bool true]]):=⟨rfl,rfl,rfl,yX,yX⟩;have hG:cD eG 8 [] [] (A.lit [[D.int 0,D.str [],D.str [],D.list [],D.list []]]) (A.lit [[D.str [97],D.int 2,D.str [],D.str [],D.list [],D.list [],D.bool false]]):=⟨rfl,rfl,rfl,yX,yX⟩;refine X.call (NU.2 a b q N (λ_=>⟨eC,V0⟩) λa1 b1 I h1=>?_);rw[QJ]at h1;simp only[ey]at h1;obtain⟨rfl,rfl,rfl⟩:=h1;have H:BD∈eC:=by simp[eC]
 have O:BC∈eC:=by simp[eC]
 have Q:eF∈eC:=by simp[eC]
 have W:eG∈eC:=by simp[eC]
 have cI:oL∈eC:=by simp[eC]
 have cL:qh [76]∈eC:=by simp[eC]
 have cM:qh [77]∈eC:=by simp[eC]
 have T:qh [78]∈eC:=by simp[eC]
 have hI:cD oL 2 [] [] (.list []) (.list []):=⟨rfl,rfl,rfl,rfl,rfl⟩;have E:∀n,cD (qh n) 10 eA n (.list []) (.list []):=λn=>⟨rfl,rfl,rfl,rfl,rfl⟩;have P:D.list []=bH ew []:=rfl
 have d:∀{s t:Ty}{y:Bool}{B:Int}{a1 a2:S}{a3 a4:D}{o:Int}{b1 b2:S}{l w:D}{K:PV->List Ob->Prop},s∈eC->t∈eC->uc jI [] eC s t y->cD s B a1 a2 a3 a4->cD t o b1 b2 l w->K (.bool y) []->
  FT 7 [] [.lst 51 de,.lst 56 (.list []),df B a1 a2 a3 a4,df o b1 b2 l w] K:=
  λh1 J j u v h=>F7 a b P yS L2 h1 J j u v λr hr=>by subst hr;exact h
 have f9:∀{s t:Ty}{I r2:Bool}{B:Int}{a1 a2:S}{a3 a4:D}{o:Int}{b1 b2:S}{l w:D}{K:PV->List Ob->Prop},s∈eC->t∈eC->uc jI [] eC s t I->uc jI [] eC t s r2->cD s B a1 a2 a3 a4->cD t o b1 b2 l w->K (.bool (I&&r2)) []->
  FT 9 [] [.lst 51 de,.lst 56 (.list []),df B a1 a2 a3 a4,df o b1 b2 l w] K:=
  λh1 J j k u v h=>F9 a b P yS L2 h1 J j k u v λr hr=>by subst hr;exact h
 have Y:=fz X.a;have g:A.not false=true:=by rw[Y];rfl
 have x:A.not true=false:=by rw[Y];rfl
 cbv;repeat' (first|apply bw|exact zf|(intro J;first|exact yB (Eq.refl true) J|exact yB (Eq.refl false) J|exact yB g J|exact yB x J|cbv)|apply bG|(refine X.call (d H O XN hb c ?_);cbv)|(refine X.call (d O H XM c hb ?_);cbv)|(refine X.call (d Q W Y9 U hG ?_);cbv)|(refine X.call (d W Q Y8 hG U ?_);cbv)|(refine X.call (W8 ?_);cbv)|(refine X.call (d cI T Y7 hI (E _) ?_);cbv)|(refine X.call (d T cI Y6 (E _) hI ?_);cbv)|(refine X.call (f9 cL cM Y5 Y4 (E _) (E _) ?_);cbv)|(refine X.call (f9 H O XN XM hb c ?_);cbv))
 refine X.call (Z3 a b P yS (le_size _ yK) (le_size _ yK) (u:=mU) (by kernel_rfl) (by kernel_rfl) (E _) λe0 e1 e2 e3 e4 he=>?_);refine p1 ?_;refine X.call (TW mU (le_size _ yK) he R λr hr=>?_);rw[jM]at hr;subst hr;have M:A.seq [] []=true:=by rw[Dg X.a];rfl
 have f:A.eq 0 0=true:=by rw[mI X.a];rfl
 cbv;repeat' (first|apply bw|exact zf|(intro J;first|exact yB (Eq.refl true) J|exact yB (Eq.refl false) J|exact yB g J|exact yB x J|exact yB M J|exact yB f J|cbv)|apply bG)
 show K (.bool (A.eq 0 0)) [];rw[f];exact h
end Go.VC.cK
namespace Go.VC
def Om{t:Ty}(hs:t.size<=200)(h:(t.all.all V3)=true):t.fit:=⟨(GX hs h).le,yO,(GX hs h).mF⟩
def S6:∀i∈jI,i.fit:=by
 intro i f;rw[CR,cU]at f;subst f;have c:mU.fit:=Om yK yK;have b:nY.fit:=Om yK yK;have d:oL.fit:=Om yK yK;have g:Ty.zero.fit:=Om yK yK
 have e:∀x∈eI.types,x.ok/\x.fit:=by
  intro x a;simp only[eI,bP,mK,or_false]at a;rcases a with rfl|rfl|rfl
  ·exact⟨⟨yS,yS,c.le,c.le⟩,yS,yS,yS,c,c⟩
  ·exact⟨⟨yS,yS,b.le,b.le⟩,yS,yS,yS,b,b⟩
  ·exact⟨⟨yS,yS,d.le,g.le⟩,yS,yS,yS,d,g⟩
 exact⟨⟨by simp[eI],by simp[eI],by simp[eI],by simp[eI],λx a=>(e x a).1,by simp[eI]⟩,yD,yK,by simp[eI],by simp[eI],by simp[eI],by simp[eI],λx a=>(e x a).2,by simp[eI],by simp[eI],by simp[eI]⟩
def Y3:dW jI:=⟨by simp[CR],λi a=>(S6 i a).ok⟩
end Go.VC
namespace Go.VC.cK
open Go Go.VC Go.Proofs
def PB{K:PV->List Ob->Prop}(h:K (.bool true) []):FT 5 [] [] K:=F5 Y3 S6 yK h
end Go.VC.cK
