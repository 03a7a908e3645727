/- Part 11 of the common texts. -/
import Derived.Test.YtflmompnagpjeaaGreatDoorPart10
set_option linter.all false
set_option maxRecDepth 100000
set_option maxHeartbeats 16000000
open And renaming intro→bk
open Bool renaming and_eq_true→bn,eq_iff_iff→cn,false_and→tp,not_eq_true'→ij,not_not→rX,true_and→iA
open Eq renaming trans→gv
open Int renaming ofNat→bj
open List renaming all_append→nI,all_eq_true→dE,any_eq_false→xx,any_eq_true→eV,append_nil→cz,drop_eq_getElem_cons→bJ,drop_length→ch,eq_nil_of_length_eq_zero→cm,find?_some→je,flatMap_cons→eJ,foldl_append→pQ,foldl_cons→fy,getElem_mem→br,getElem_zipWith→K4,length_append→bp,length_cons→bI,length_filter_le→jo,length_map→bA,length_nil→bZ,length_take→cF,length_zipWith→uP,map_append→bS,map_cons→bF,map_map→ep,mem_append→bE,mem_append_left→cy,mem_append_right→cP,mem_cons→bx,mem_filter→hZ,mem_flatMap→cb,mem_map→bH,mem_of_find?_eq_some→cE,mem_of_mem_take→tl,mem_range→k9,mem_singleton→cU,ne_nil_of_mem→wS,nodup_append→dk,not_all_eq_any_not→HW,not_mem_nil→gH,range→dF,take_length→bz
open Nat renaming le_trans→bM,mul_le_mul→lG,zero_le→bw
open Or renaming inl→bB
open Prod renaming ext→fq
namespace Go.VC
structure JC (env:List IF) (ctx:List Pm) (C:List Ty) (de dx:D) (k:List Jm):Prop where
 E:nO env de
 P:Jo env ctx C de dx
 cf:∀p∈ctx,p.bound.fit/\p.name.length<=1048576
 fo:∀u∈C,dI env (fC ctx) u=true
 k:∀j∈k,kH env ctx j.1 j.2=true/\(j.1∈C/\j.2∈C)/\j.1.fit/\j.2.fit
structure Tp (env:List IF) (de:D) (c:mn) (C:List Ty):Prop where
 E:nO env de
 fit:c.fit
 len:∀k,oo env c=some k->k.length<=9
 ok:∀k,oo env c=some k->k≠[]->JC env (fv c) C de (bt dB (fv c)) k
noncomputable def lq(env:List IF)(c:mn):Bool:=match oo env c with
 |none=>false
 |some k=>k.all (hB env (fv c))
end Go.VC
namespace Go.VC.cc
open Go Go.VC Go.Proofs
section
section
variable {env:List IF}{ctx:List Pm}{C:List Ty}{de dx:D}{K:PV->List Ob->Prop}
def Y3:dH:={tt:=tt,n:=19,n0:=2}
def F53{k:List Jm}(m:JC env ctx C de dx k){j:Jm}(i:j∈k){a:Int}{a1 a2:S}{a3 a4:D}{c:Int}{b1 b2:S}{g f:D}(ha:cr j.1 a a1 a2 a3 a4)(hb:cr j.2 c b1 b2 g f)
 (h:∀b,b= !hB env ctx j->K (.bool b) (Yt de dx)):FT 53 (Yt de dx) [kq a a1 a2 a3 a4 c b1 b2 g f,.box 0 0,.box 1 0] K:=by
 obtain⟨j1,j2,j3,j4⟩:=m.k j i;refine el Y3 Tryz.func53 λA C L X=>?_;have Y:=fg X.a;cbv;refine X.call (F7 m.E m.P.hc m.P.oV m.cf j3 j4 (λ_=>⟨m.P,j2⟩) ha hb (λe=>?_) λe e2 d l=>?_)
 ·rw[j1]at e;have e:hB env ctx j=false:=yU e;have q:=h (A.not false) (by rw[Y,e]);cbv;exact q
 ·have e2:hB env ctx j=true:=e2;have q:=h (A.not true) (by rw[Y,e2]);cbv;exact q
end
def ZF:dH:={tt:=tt,n:=22,live:=[34]}
def F16{env:List IF}{de:D}{c:mn}{C:List Ty}(G:Tp env de c C){r:Int}{c1 c2:S}{f:Int}{o:D}{m:Int}{n i:S}{l a:D}{e0:Int}{e1 e2:S}{e3 e4:D}(hc:sa c r c1 c2 f o m n i l a e0 e1 e2 e3 e4){K:PV->List Ob->Prop}
 (h:∀b,b=lq env c->K (.bool b) []):FT 16 [] [.lst 97 de,xc r c1 c2 f o m n i l a e0 e1 e2 e3 e4] K:=by
 refine FC.enter (G:=ZF) fD mixed ⟨Tryz.func16,by rfl,rfl⟩ rfl rfl rfl ?_;intro A w L X;have Y:=fg X.a;cbv;refine X.call (X3 G.E hc G.fit (λe=>?_) λk dx x e v hl=>?_)
 ·have q:=h false (by unfold lq;rw[e]);cbv;repeat' (first|apply bk|exact zf|(intro J;first|exact yB rfl J|cbv)|apply bB)
  all_goals exact q
 ·have hk:=G.len k e;have h:∀b,b=k.all (hB env (fv c))->K (.bool b) []:=λb hb=>h b (by unfold lq;rw[e,hb]);have u:k≠[]->JC env (fv c) C de dx k:=λg=>v▸G.ok k e g;cbv;repeat' (first|apply bk|exact zf|(intro J;cbv)|apply bB|(refine X.call (Yn .b (p:=λj=> !hB env (fv c) j) hl yO (λj d=>λs t hK=>F53 (u (wS d)) d s t hK) λb hb=>?_);cbv))
  all_goals first
   |exact absurd (show true=false by assumption) (by decide)
   |exact h (A.not _) (by rw[Y,hb,<-HW,rX])
   |trace_state
end
end Go.VC.cc
namespace Go.VC
noncomputable def zO(env:List IF)(ctx:List Pm)(k:List Jm):List rT:=k.foldl (λout j=>(s4 env ctx j).foldl nG out) []
def zy{α β:Type}{f:β->α->β}{l:List α}{i:Nat}{b:β}(h:i<l.length):(l.take (i+1)).foldl f b=f ((l.take i).foldl f b) l[i]:=by rw[cj h,pQ];rfl
def NQ{out:List rT}{s x:rT}(h:x∈nG out s):x∈out\/x=s:=by
 unfold nG at h;split at h
 ·exact .inl h
 ·rcases bE.1 h with h|h
  ·exact .inl h
  ·exact .inr (yU h)
def Uh{n:Int}{s t:Ty}{d:Int}{a1 a2:S}{a3 a4:D}{b:Int}{b1 b2:S}{a c:D}(ha:cr s d a1 a2 a3 a4)(hb:cr t b b1 b2 a c):[.int n,.int d,.str a1,.str a2,a3,a4,.int b,.str b1,.str b2,a,c]=jA (n,(s,t)):=by obtain⟨rfl,rfl,rfl,rfl,rfl⟩:=ha;obtain⟨rfl,rfl,rfl,rfl,rfl⟩:=hb;unfold jA dD;rw[dn,dn];rfl
end Go.VC
namespace Go.VC.cc
open Go Go.VC Go.Proofs
def ZI:dH:={tt:=tt,n:=62,own:=[9]}
def F15{env:List IF}{de:D}{c:mn}{C:List Ty}(G:Tp env de c C){c0:Int}{c1 c2:S}{c3:Int}{c4:D}{c5:Int}{c6 c7:S}{c8 c9:D}{e0:Int}{e1 e2:S}{e3 e4:D}(hc:sa c c0 c1 c2 c3 c4 c5 c6 c7 c8 c9 e0 e1 e2 e3 e4){K:PV->List Ob->Prop}
 (h0:lq env c=false->K (.tup [.lst 60 (.list []),.bool false]) [])
 (h1:∀k d,lq env c=true->oo env c=some k->d=bt jA (zO env (fv c) k)->K (.tup [.lst 60 d,.bool true]) []):
 FT 15 [] [.lst 97 de,xc c0 c1 c2 c3 c4 c5 c6 c7 c8 c9 e0 e1 e2 e3 e4] K:=by
 refine FC.enter (G:=ZI) fD mixed ⟨Tryz.func15,by rfl,rfl⟩ rfl rfl rfl ?_;intro A C' L X;have Y:=fg X.a;have V:A.not true=false:=by rw[Y];rfl
 have U:A.not false=true:=by rw[Y];rfl
 cbv;refine X.call (X3 G.E hc G.fit (λe=>?_) λk dx dl e v hl=>?_)
 ·have q:=h0 (by unfold lq;rw[e]);cbv;repeat' (first|apply bk|exact zf|(intro J;first|exact yB U J|cbv)|apply bB)
  all_goals exact q
 have hk:=G.len k e;have hh:lq env c=k.all (hB env (fv c)):=by unfold lq;rw[e]
 rw[hh]at h0 h1;have h1:=h1 k;obtain⟨ctx,H⟩:∃x,x=fv c:=⟨_,rfl⟩;have hJ:k≠[]->JC env ctx C de dx k:=λg=>by rw[H,v];exact G.ok k e g
 rw[<- H]at h0 h1 v hh;obtain⟨F,hF⟩:∃F,F=(λ(out:List rT) (j:Jm)=>(s4 env ctx j).foldl nG out):=⟨_,rfl⟩;have R:zO env ctx k=k.foldl F []:=by rw[hF];rfl
 rw[R]at h1;obtain⟨B,W,s⟩:=lenOf hl;clear R hh H;cbv;repeat' (first|apply bk|exact zf|(intro J;first|exact yB V J|cbv)|apply bB)
 refine X.ka (λ(y:Nat×D)=>⟨[(28,.int .i64 y.1),(27,.int .i64 (A.len dl)),(26,.lst 50 dl),(9,.row 60 0),(6,.lst 73 dx),(0,.lst 97 de)],[.row 60 y.2 true]⟩)
  (λy=>y.1<=B/\(k.take y.1).all (hB env ctx)=true/\y.2=bt jA ((k.take y.1).foldl F [])/\((k.take y.1).foldl F []).length<=20000*y.1/\∀x∈(k.take y.1).foldl F [],x.2.1∈C/\x.2.2∈C) (λy=>B-y.1) (0,.list []) ⟨bw _,rfl,rfl,yS,yS⟩ ?_ ?_
 ·refine⟨[1],rfl,?_⟩
  (cbv;repeat' apply bk);all_goals try first|trivial|rfl|(rw[X.a];rfl)
 rintro⟨i,d⟩ ⟨hi,P,hd,I,N⟩;simp only at hi P hd I N;cbv;refine⟨λg1=>?_,λg1=>?_⟩
 ·have h5:i<k.length:=by obtain rfl:=X.a;simp only[s,SD,fP]at g1;omega
  obtain⟨k1,k2⟩:=Hg X.a hl h5;have aj:A.idx (bj i) (A.len dl):=by rw[X.a,hl];exact cY h5
  have ag:A.inr .i64 (A.add (bj i) 1):=by rw[X.a];exact fN h5 yO
  have aH:=hJ (λe=>by rw[e]at h5;simp at h5);obtain⟨j1,j2,j3,j4⟩:=aH.k _ (br h5);have ac:hB env ctx k[i]=false->K (.tup [.lst 60 (.list []),.bool false]) []:=λe=>h0 (all_false h5 e);have m:=zy (f:=F) (b:=[]) h5;have M:=λz=>lz h5 P z;obtain⟨o,ho⟩:∃o,o=(k.take i).foldl F []:=⟨_,rfl⟩;rw[<- ho]at hd I N m;clear g1 ho P;cbv;refine⟨aj,?_⟩;refine X.call (F7 aH.E aH.P.hc aH.P.oV aH.cf j3 j4 (λ_=>⟨aH.P,j2⟩) k1 k2 (λe=>?_) λe e2 d2 w=>?_)
  ·rw[j1]at e;have q:=ac (yU e);cbv;repeat' (first|apply bk|exact zf|(intro J;first|exact yB U J|cbv)|apply bB)
   all_goals exact q
  have M:=M e2;obtain⟨_,_,f4,f5⟩:=BE aH.P.hC j2.1 j2.2 e2;obtain⟨l,O⟩:∃l,l=s4 env ctx k[i]:=⟨_,rfl⟩;have ef:F o k[i]=l.foldl nG o:=by rw[hF,O]
  have w:d2=bt jA l:=by rw[O];exact w
  have f4:∀y∈l,y.2.1∈C/\y.2.2∈C:=by rw[O];exact f4
  have f5:l.length<=20000:=by rw[O];exact f5
  obtain⟨E,aa,r⟩:=lenOf w;clear ac e e2 O;cbv;repeat' (first|apply bk|exact zf|(intro J;first|exact yB V J|cbv)|apply bB)
  refine X.ka (λ(y:Nat×D)=>⟨[(46,.int .i64 y.1),(45,.int .i64 (A.len d2)),(44,.lst 60 d2),(28,.int .i64 i),(27,.int .i64 (A.len dl)),(26,.lst 50 dl),(9,.row 60 0),(6,.lst 73 dx),(0,.lst 97 de)],[.row 60 y.2 true]⟩)
   (λy=>y.1<=E/\y.2=bt jA ((l.take y.1).foldl nG o)/\((l.take y.1).foldl nG o).length<=20000*i+y.1/\∀x∈(l.take y.1).foldl nG o,x.2.1∈C/\x.2.2∈C) (λy=>E-y.1) (0,d) ⟨bw _,hd,I,N⟩ ?_ ?_
  ·refine⟨[0],rfl,?_⟩
   (cbv;repeat' apply bk);all_goals try first|trivial|rfl|(rw[X.a];rfl)
  rintro⟨p,d3⟩ ⟨hp,n,t,a⟩;simp only at hp n t a;cbv;refine⟨λg1=>?_,λg1=>?_⟩
  ·have h6:p<l.length:=by obtain rfl:=X.a;simp only[r,SD,fP]at g1;omega
   obtain⟨q0,q1,q2⟩:=OS X.a w h6;have ad:A.idx (bj p) (A.len d2):=by rw[X.a,w];exact cY h6
   have T:A.inr .i64 (A.add (bj p) 1):=by rw[X.a];exact fN h6 yO
   have h:=zy (f:=nG) (b:=o) h6;have f6:=f4 _ (br h6);obtain⟨u,hu⟩:∃u,u=(l.take p).foldl nG o:=⟨_,rfl⟩;rw[<- hu]at n t a h;have hB:∀row:List D,A.gr (A.add (A.len d3) (A.len (A.lit [row]))) 4294967296:=λrow=>by rw[X.a,n];simp only[SD,fP];omega
   have Q:A.app d3 (A.lit [[.int (A.asInt (A.cell d2 (bj p) 0)),.int (A.asInt (A.cell d2 (bj p) 1)),.str (A.bG (A.cell d2 (bj p) 2)),.str (A.bG (A.cell d2 (bj p) 3)),A.cell d2 (bj p) 4,A.cell d2 (bj p) 5,.int (A.asInt (A.cell d2 (bj p) 6)),.str (A.bG (A.cell d2 (bj p) 7)),.str (A.bG (A.cell d2 (bj p) 8)),A.cell d2 (bj p) 9,A.cell d2 (bj p) 10]])=bt jA (u++[l[p]]):=by rw[Uh q1 q2,q0,X.a,n];exact cD (f:=jA) (k:=[l[p]])
   clear g1 hu;cbv;refine⟨ad,?_⟩;refine X.call (F50 q1 q2 n yO (λx v=>⟨(aH.P.hC.ct _ (a x v).1).le,(aH.P.hC.ct _ (a x v).2).le⟩) λb hb=>?_);have hb:b=Ki u l[p].2:=hb;cases b with
   |true=>
    have e:nG u l[p]=u:=by unfold nG;rw[<- hb];rfl
    rw[e]at h;cbv;repeat' (first|apply bk|exact zf|(intro J;first|exact yB V J|cbv)|apply bB)
    all_goals try exact T
    refine⟨(p+1,d3),⟨yP,by rw[h];exact n,by rw[h];simp only;omega,by rw[h];exact a⟩,yP,[0],rfl,?_⟩
    (cbv;repeat' apply bk);all_goals try first|trivial|rfl|(rw[X.a];rfl)
   |false=>
    have e:nG u l[p]=u++[l[p]]:=by unfold nG;rw[<- hb];rfl
    rw[e]at h;rw[<- h]at Q;cbv;repeat' (first|apply bk|exact zf|(intro J;first|exact yB U J|cbv)|apply bB)
    all_goals try first|exact T|exact hB _
    refine⟨(p+1,_),⟨yP,Q,by rw[h,bp];simp only[bI,bZ];omega,by rw[h];intro x v;rcases bE.1 v with v|v;exact a x v;simp at v;subst v;exact f6⟩,yP,[0],rfl,?_⟩
    (cbv;repeat' apply bk);all_goals try first|trivial|rfl|(rw[X.a];rfl)
  ·have h6:p=E:=by obtain rfl:=X.a;simp only[r,SD,fP]at g1;omega
   rw[h6,aa,bz]at n t a;cbv;repeat' (first|apply bk|exact zf|(intro J;cbv)|apply bB)
   all_goals try exact ag
   refine⟨(i+1,d3),⟨yP,M,by rw[m,ef];exact n,by rw[m,ef];simp only;omega,by rw[m,ef];exact a⟩,yP,[0],rfl,?_⟩
   (cbv;repeat' apply bk);all_goals try first|trivial|rfl|(rw[X.a];rfl)
 ·have h5:i=B:=by obtain rfl:=X.a;simp only[s,SD,fP]at g1;omega
  rw[h5,W,bz]at P hd;have q:=h1 d P e hd;cbv;exact q
end Go.VC.cc
namespace Go.VC
noncomputable def DK(env:List IF)(c:mn)(l:List rT):Bool:=match oo env c with
 |none=>false
 |some k=>if k.length=0 then decide (l.length=0)else k.all (xd env (fv c) l)
end Go.VC
namespace Go.VC.cc
open Go Go.VC Go.Proofs
section
section
variable {env:List IF}{ctx:List Pm}{C:List Ty}{de dx ds:D}{K:PV->List Ob->Prop}{st:List rT} (hs:ds=bt jA st) (a:st.length<=100000)
include hs a
def Y2:dH:={tt:=tt,n:=15,n0:=3}
def F54{k:List Jm}(m:JC env ctx C de dx k)(c:∀x∈st,x.2.1∈C/\x.2.2∈C){j:Jm}(l:j∈k){e:Int}{a1 a2:S}{a3 a4:D}{f:Int}{b1 b2:S}{i g:D}(ha:cr j.1 e a1 a2 a3 a4)(hb:cr j.2 f b1 b2 i g)
 (h:∀b,b= !xd env ctx st j->K (.bool b) (X7 de dx ds)):FT 54 (X7 de dx ds) [kq e a1 a2 a3 a4 f b1 b2 i g,.box 0 0,.box 1 0,.box 2 0] K:=by
 obtain⟨j1,j2,j3,j4⟩:=m.k j l;refine el Y2 Tryz.func54 λA C L X=>?_;have Y:=fg X.a;cbv;refine X.call (F8 m.E m.P.hc m.P.oV m.cf j3 j4 (λ_=>⟨m.P,j2⟩) hs a (λ_=>c) ha hb λb d=>?_);have q:=h (A.not b) (by rw[Y,d]);cbv;exact q
def ZE:dH:={tt:=tt,n:=34,live:=[34]}
def F17{c:mn}(G:Tp env de c C)(n:∀k,oo env c=some k->k≠[]->∀x∈st,x.2.1∈C/\x.2.2∈C){E:Int}{c1 c2:S}{u:Int}{B:D}{v:Int}{y t:S}{r s:D}{e0:Int}{e1 e2:S}{e3 e4:D}(hc:sa c E c1 c2 u B v y t r s e0 e1 e2 e3 e4)
 (h:∀b,b=DK env c st->K (.bool b) []):FT 17 [] [.lst 97 de,xc E c1 c2 u B v y t r s e0 e1 e2 e3 e4,.lst 60 ds] K:=by
 refine FC.enter (G:=ZE) fD mixed ⟨Tryz.func17,by rfl,rfl⟩ rfl rfl rfl ?_;intro A M L X;have Y:=fg X.a;have d:A.not true=false:=by rw[Y];rfl
 have m:A.not false=true:=by rw[Y];rfl
 have Z:=oY X.a;have l:A.len ds=bj st.length:=gE X.a hs;cbv;refine X.call (X3 G.E hc G.fit (λe=>?_) λk dx i e H hl=>?_)
 ·have q:=h false (by unfold DK;rw[e]);cbv;repeat' (first|apply bk|exact zf|(intro J;first|exact yB m J|exact yB d J|cbv)|apply bB)
  all_goals first|exact absurd (show false=true by assumption) (by decide)|exact q
 ·have hk:=G.len k e;have f:A.len i=bj k.length:=gE X.a hl;have h:∀b,b=(if k.length=0 then decide (st.length=0)else k.all (xd env (fv c) st))->K (.bool b) []:=λb hb=>h b (by unfold DK;rw[e];exact hb);by_cases g:k.length=0
  ·rw[if_pos g]at h;have z:A.eq (A.len i) 0=true:=by rw[Z,f,g];rfl
   have q:=h (A.eq (A.len ds) 0) (by rw[Z,l,cn];simp);cbv;repeat' (first|apply bk|exact zf|(intro J;first|exact yB d J|exact yB z J|cbv)|apply bB)
   all_goals first|exact absurd (show true=false by assumption) (by decide)|exact q
  ·rw[if_neg g]at h;have z:A.eq (A.len i) 0=false:=by rw[Z,f];exact beq_eq_false_iff_ne.2 yL
   have w:k≠[]->JC env (fv c) C de dx k/\∀x∈st,x.2.1∈C/\x.2.2∈C:=λg=>⟨H▸G.ok k e g,n k e g⟩;cbv;repeat' (first|apply bk|exact zf|(intro J;first|exact yB d J|exact yB z J|cbv)|apply bB|(refine X.call (Yn .c (p:=λj=> !xd env (fv c) st j) hl yO (λj o=>λF I hK=>F54 hs a (w (wS o)).1 (w (wS o)).2 o F I hK) λb hb=>?_);cbv))
   all_goals first|exact absurd (show true=false by assumption) (by decide)|exact h (A.not _) (by rw[Y,hb,<-HW,rX])
end
end
end Go.VC.cc
namespace Go.VC
open Classical
section
variable {env:List IF}{n m:S}{x:VE}{i:IF}{k:List Jm}
def mL:Ty.zero.fit:=⟨lb,yD,xA⟩
def Ib(a:ml env)(m n:S):(cp env m n).1.params.length<=8:=by
 by_cases h:(cp env m n).2.2=0
 ·exact(Gq a h).1
 ·unfold cp at h ⊢;cases b:fY env 65 m n<;>rw[b]at h<;>first|exact absurd rfl h|simp[TE.zero]
def Gk(h:(dP env m n).2.2=0):∃i∈env,(dP env m n).1∈i.values:=by
 unfold dP at h ⊢;have a:=o3 (env:=env) 65 m n;cases b:fY env 65 m n with
 |val m' n' x=>obtain⟨i,h1,_,J⟩:=a.2 m' n' x b;exact⟨i,cE h1,cE J⟩
 |_=>rw[b]at h;cases h
def Ld{vs:List S}:∀{l:List Pm}{k:Nat},uY env vs k l=0->∀p∈l,∃j,sF env (vs.take j) p.bound=0
 |[],k,_,p,a=>yE a
 |q::l,k,h,p,a=>by
  rw[uY]at h;split at h
  ·rename_i b;exact absurd h b
  ·rename_i b;rcases bx.1 a with rfl|a
   ·exact⟨k,yU b⟩
   ·exact Ld h p a
def Ch(h:wU env x=0):(x.params.length<=8/\x.params.map Pm.name=(dF x.params.length).map wV)/\(∀p∈x.params,dI env (x.params.map Pm.name) p.bound=true)/\dI env (x.params.map Pm.name) x.ty=true:=by
 unfold wU at h;split at h
 ·rename_i a;exact absurd h a
 ·rename_i h1;split at h
  ·rename_i a;exact absurd h a
  ·rename_i J;refine⟨Bc (yU h1),λp b=>?_,uk h⟩;obtain⟨j,d⟩:=Ld (yU J) p b;exact zx (λx c=>tl c) (uk d)
def Le(a:ml env)(h:(dP env m n).2.2=0):wU env (dP env m n).1=0:=by obtain⟨i,b,c⟩:=Gk h;exact(a.ok i b).v _ c
def OC(a:ml env)(m n:S):(dP env m n).1.params.length<=8:=by
 by_cases h:(dP env m n).2.2=0
 ·exact(Ch (Le a h)).1.1
 ·unfold dP at h ⊢;cases b:fY env 65 m n<;>rw[b]at h<;>first|exact absurd rfl h|simp[VE.zero]
structure On (l:List Ty) (c:mn):Prop where
 n8:c.ps.length<=8
 nm:c.ps.map Pm.name=(dF c.ps.length).map wV
 b:∀p∈c.ps,(p.bound∈l\/p.bound=Ty.zero)/\p.bound.fit
 st:∃rs:List (S×S),rs.length<=2/\(∀r∈rs,r.1.length<=1048576/\r.2.length<=1048576)/\∀u,u=c.s\/u=c.t->u.fit/\(u=Ty.zero\/u∈l\/∃r∈rs,u=mb r.1 r.2 c.ps)
def On.nl{l:List Ty}{c:mn}(h:On l c):∀p∈c.ps,p.name.length<=1048576:=λp a=>by have:p.name∈c.ps.map Pm.name:=bH.2 ⟨p,a,rfl⟩;rw[h.nm]at this;obtain⟨k,hk,e⟩:=bH.1 this;have:=k9.1 hk;have:=h.n8;rw[<- e];exact Er yO
def Cd(h:n.length<=1048576):(iB n).fit:=⟨.mk _ (by simp[iB,Ty.ar]) (by simp[iB,Ty.fl]) (by simp[iB,Ty.ar]) (by simp[iB,Ty.fl]),by simp[iB,Ty.size,Ty.lZ,Ty.ma],λu hu=>by obtain rfl:=Ce hu;exact⟨by simp[iB,Ty.m],h,by simp[iB,Ty.fl]⟩⟩
def O9{ps:List Pm}(h8:ps.length<=8)(c:∀p∈ps,p.name.length<=1048576)(d:m.length<=1048576)(e:n.length<=1048576):(mb m n ps).fit:=by
 refine⟨.mk _ (by simp[mb,Ty.ar];omega) (by simp[mb,Ty.fl]) (λu hu=>?_) (by simp[mb,Ty.fl]),?_,λu hu=>?_⟩
 ·obtain⟨p,a,rfl⟩:=bH.1 hu;exact(Cd (c p a)).le
 ·rw[size_eq];have:(mb m n ps).eA=ps.map λp=>iB p.name:=by simp[mb,Ty.eA,Ty.ar,Ty.fl]
  rw[this,ep];have:(Ty.size∘λp:Pm=>iB p.name)=λ_=>1:=by funext p;simp[iB,Ty.size,Ty.lZ,Ty.ma]
  rw[this,CM];omega
 ·rw[all_eq]at hu;rcases bx.1 hu with rfl|hu
  ·exact⟨d,e,by simp[mb,Ty.fl]⟩
  ·obtain⟨v,b,hu⟩:=cb.1 hu;have b:v∈ps.map λp=>iB p.name:=by simpa[mb,Ty.eA,Ty.ar,Ty.fl]using b
   obtain⟨p,a,rfl⟩:=bH.1 b;exact(Cd (c p a)).me u hu
def Mh(l:List Ty)(m:S):On l (pA m):=⟨by simp[pA],by simp[pA],by simp[pA],[],yS,yS,λu hu=>by
 have:u=Ty.zero:=by rcases hu with h|h<;>exact h
 exact⟨this▸mL,.inl this⟩⟩
def uZ{x:TE}(h:x∈i.types):x.lower∈cW i/\x.upper∈cW i/\∀p∈x.params,p.bound∈cW i:=by have:∀u∈eL x,u∈cW i:=λu hu=>cy _ (cb.2 ⟨x,h,hu⟩);exact⟨this _ (by simp[eL]),this _ (by simp[eL]),λp a=>this _ (by unfold eL;exact cP _ (bH.2 ⟨p,a,rfl⟩))⟩
def AP(h:x∈i.values):x.ty∈cW i/\∀p∈x.params,p.bound∈cW i:=by have:∀u∈fU x,u∈cW i:=λu hu=>cP _ (cb.2 ⟨x,h,hu⟩);exact⟨this _ (by simp[fU]),λp a=>this _ (by unfold fU;exact cP _ (bH.2 ⟨p,a,rfl⟩))⟩
def O7(ec:∀i∈env,i.fit)(m n:S):(pq env m n).1.length<=1048576/\(pq env m n).2.length<=1048576:=by
 have a:=o3 (env:=env) 65 m n;unfold pq;have e:lR env m n=fY env 65 m n:=rfl;cases b:lR env m n with
 |nf=>simp
 |loop=>simp
 |th m' n' x=>
  obtain⟨i,h1,J⟩:=a.1 m' n' x (e▸b);have hf:=ec i (cE h1);have e1:i.path=m':=by simpa using je h1
  have e2:x.name=n':=by simpa using je J
  exact⟨e1▸hf.path,e2▸(hf.t x (cE J)).n⟩
 |val m' n' x=>
  obtain⟨i,h1,_,J⟩:=a.2 m' n' x (e▸b);have hf:=ec i (cE h1);have e1:i.path=m':=by simpa using je h1
  have e2:x.name=n':=by simpa using je J
  exact⟨e1▸hf.path,e2▸(hf.v x (cE J)).n⟩
def D3{b:Bool}(l:List Pm):(l.map (j5 b)).map Pm.name=l.map Pm.name:=by rw[ep];congr 1;funext p;cases b<;>rfl
def Mf(y:ml env)(ec:∀i∈env,i.fit){l:List Ty}(hl:∀i∈env,∀u∈cW i,u∈l)(A:m.length<=1048576)(C:n.length<=1048576):∀c∈qb env m n,On l c:=by
 intro c hc;unfold qb at hc;split at hc
 ·rename_i h0;obtain⟨i,g,o⟩:=Gk h0;obtain⟨⟨h8,f⟩,_,_⟩:=Ch (Le y h0);obtain⟨v,t⟩:=AP o;have hf:=(ec i g).v _ o
  have go:∀c:mn,c.ps=(dP env m n).1.params.map (j5 false)->c.s=Ty.zero->(c.t=Ty.zero\/c.t=(dP env m n).1.ty)->On l c:=λc e1 e2 e3=>by
   refine⟨by rw[e1,bA];exact h8,by rw[e1,D3,bA];exact f,λp a=>?_,[],yS,yS,λu hu=>?_⟩
   ·rw[e1]at a;obtain⟨q,z,rfl⟩:=bH.1 a;exact⟨.inl (hl i g _ (t q z)),hf.p q z⟩
   ·rcases hu with rfl|rfl
    ·rw[e2];exact⟨mL,.inl rfl⟩
    ·rcases e3 with e|e<;>rw[e]
     ·exact⟨mL,.inl rfl⟩
     ·exact⟨hf.ty,.inr (.inl (hl i g _ v))⟩
  simp only[bx,gH,or_false]at hc;rcases hc with rfl|rfl
  ·exact go _ rfl rfl (.inl rfl)
  ·exact go _ rfl rfl (.inr rfl)
 ·split at hc
  ·simp at hc
  ·rename_i h0;have h0:(cp env m n).2.2=0:=yU h0;obtain⟨i,g,o⟩:=lg h0;obtain⟨h8,f⟩:=Gq y h0;obtain⟨v,t,_⟩:=uZ o;have hf:=(ec i g).t _ o;obtain⟨B,r2⟩:=O7 ec m n;obtain⟨ps,b⟩:∃ps,ps=(cp env m n).1.params.map (j5 true):=⟨_,rfl⟩;rw[<- b]at hc;have w:ps.length<=8:=by rw[b,bA];exact h8
   have j:ps.map Pm.name=(dF ps.length).map wV:=by rw[b,D3,bA];exact f
   have s:∀p∈ps,p.bound=Ty.zero:=λp a=>by rw[b]at a;obtain⟨q,_,rfl⟩:=bH.1 a;rfl
   have pl:∀p∈ps,p.name.length<=1048576:=On.nl (l:=l) (c:=⟨0,[],[],0,ps,Ty.zero,Ty.zero⟩) ⟨w,j,λp a=>⟨.inr (s p a),s p a▸mL⟩,[],yS,yS,λu hu=>by
    have:u=Ty.zero:=by rcases hu with h|h<;>exact h
    exact⟨this▸mL,.inl this⟩⟩
   have go:∀c:mn,c.ps=ps->(∀u,u=c.s\/u=c.t->u=Ty.zero\/u=(cp env m n).1.lower\/u=(cp env m n).1.upper\/∃r∈[(m,n),pq env m n],u=mb r.1 r.2 ps)->On l c:=λc e h=>by
    have hr:∀r∈[(m,n),pq env m n],r.1.length<=1048576/\r.2.length<=1048576:=λr hr=>by
     simp only[bx,gH,or_false]at hr;rcases hr with rfl|rfl
     ·exact⟨A,C⟩
     ·exact⟨B,r2⟩
    refine⟨e▸w,e▸j,λp a=>by rw[e]at a;exact⟨.inr (s p a),s p a▸mL⟩,[(m,n),pq env m n],yS,hr,λu hu=>?_⟩;rcases h u hu with rfl|rfl|rfl|⟨r,d,rfl⟩
    ·exact⟨mL,.inl rfl⟩
    ·exact⟨hf.lo,.inr (.inl (hl i g _ v))⟩
    ·exact⟨hf.up,.inr (.inl (hl i g _ t))⟩
    ·exact⟨O9 w pl (hr r d).1 (hr r d).2,.inr (.inr ⟨r,d,by rw[e]⟩)⟩
   rcases bx.1 hc with rfl|hc
   ·exact go _ rfl λu hu=>.inl (by rcases hu with h|h<;>exact h)
   ·rcases bE.1 hc with hc|hc
    ·obtain⟨_,_,_,e,e1,e2⟩:=tz hc;exact go _ e λu hu=>.inl (by rcases hu with h|h;exact h.trans e1;exact h.trans e2)
    ·unfold Gr at hc;split at hc<;>(simp only[bx,gH,or_false]at hc;rcases hc with rfl|rfl)
     ·exact go _ rfl λu hu=>by rcases hu with h|h;exact .inr (.inr (.inr ⟨(m,n),yS,h⟩));exact .inr (.inr (.inl h))
     ·exact go _ rfl λu hu=>by rcases hu with h|h;exact .inr (.inl h);exact .inr (.inr (.inr ⟨(m,n),yS,h⟩))
     ·exact go _ rfl λu hu=>by rcases hu with h|h;exact .inr (.inr (.inr ⟨(m,n),yS,h⟩));exact .inr (.inr (.inr ⟨pq env m n,yS,h⟩))
     ·exact go _ rfl λu hu=>by rcases hu with h|h;exact .inr (.inr (.inr ⟨pq env m n,yS,h⟩));exact .inr (.inr (.inr ⟨(m,n),yS,h⟩))
def EF(c:mn):fC (fv c)=c.ps.map Pm.name:=by unfold fC fv;rw[ep];rfl
def El(m n:S)(c:mn):mb m n (fv c)=mb m n c.ps:=by unfold mb fv;rw[ep];rfl
def MF{c:mn}(h:qd env c=some k):k.length<=c.ps.length+1:=by
 unfold qd at h;repeat' split at h
 all_goals first
  |(cases h;simp;done)
  |(cases h;unfold JK;rw[bp,uP];simp;omega)
  |cases h
def Sl{de:D}(E:nO env de){l C0:List Ty}(hT:FY env l C0)(y:∀i∈env,∀u∈cW i,u∈l){c:mn}(hc:On l c)(h:oo env c=some k)(hk:k≠[]):
 ∃C,Jo env (fv c) C de (bt dB (fv c))/\(∀u∈C,dI env (fC (fv c)) u=true)/\∀j∈k,kH env (fv c) j.1 j.2=true/\(j.1∈C/\j.2∈C)/\j.1.fit/\j.2.fit:=by
 unfold oo at h;split at h
 rotate_left
 ·cases h
 rename_i hv;have hE:=zH (tB hv);obtain⟨rs,r2,rl,w⟩:=hc.st;have ac:=hc.nl
 have key:∀u v,kH env (fv c) u v=true->∃C,Jo env (fv c) C de (bt dB (fv c))/\(∀u∈C,dI env (fC (fv c)) u=true)/\(∀u∈l,u.fit->dI env (fC (fv c)) u=true->u∈C)/\(∀p∈c.ps,iB p.name∈C)/\∀u,u=c.s\/u=c.t->dI env (fC (fv c)) u=true->u∈C:=λu v hf=>by
  unfold kH at hf;rw[bn]at hf
  obtain⟨C,c1,c2,c3,c4,c5,c6⟩:=P5 E (ctx:=fv c) rfl (by rw[EF,hc.nm];unfold fv;rw[bA]) (by unfold fv;rw[bA];exact hc.n8) hf.1 hT
   (λp O=>by obtain⟨q,hq,rfl⟩:=bH.1 O;exact(hc.b q hq).1) (λp O=>by obtain⟨q,hq,rfl⟩:=bH.1 O;exact(hc.b q hq).2) (λi K x L=>⟨y i K _ (uZ L).1,y i K _ (uZ L).2.1⟩)
   (rs:=rs.filter λr=>dI env (fC (fv c)) (mb r.1 r.2 c.ps)) (bM (jo _ _) r2) (λr hr=>by obtain⟨a,b⟩:=hZ.1 hr;exact⟨by rw[El];exact b,rl r a⟩)
  refine⟨C,c1,c2,c3,λp O=>c5 ⟨p.name,0,p.bound⟩ (bH.2 ⟨p,O,rfl⟩),λu hu g=>?_⟩;obtain⟨uf,hu⟩:=w u hu;rcases hu with rfl|hu|⟨r,hr,rfl⟩
  ·exact c4
  ·exact c3 u hu uf g
  ·rw[<- El];exact c6 r (hZ.2 ⟨hr,g⟩)
 unfold qd at h;split at h
 ·split at h<;>cases h;exact absurd rfl hk
 split at h
 ·split at h<;>cases h;exact absurd rfl hk
 split at h
 ·split at h<;>cases h;exact absurd rfl hk
 split at h
 ·split at h<;>cases h;exact absurd rfl hk
 split at h
 ·split at h
  ·rename_i hb;cases h;rw[bn]at hb;obtain⟨G,f⟩:=hb;obtain⟨C,d1,d2,W,d4,V⟩:=key _ _ f;unfold qn at G;simp only[bn,decide_eq_true_eq]at G;obtain⟨⟨P,_⟩,z⟩:=G;obtain⟨x,M⟩:∃x,x=(dP env c.m c.n).1:=⟨_,rfl⟩;obtain⟨i,K,L⟩:=Gk P;obtain⟨⟨_,U⟩,F,H⟩:=Ch (Le hE P);rw[<- M]at L U F H z;rw[<- M];have Q:x.params.map Pm.name=c.ps.map Pm.name:=by rw[U,hc.nm,z]
   have hN:fC (fv c)=x.params.map Pm.name:=by rw[EF,Q]
   have I:(c.ps.map λq=>iB q.name)=(x.params.map Pm.name).map iB:=by rw[Q,ep];rfl
   have B:∀t,dI env (x.params.map Pm.name) t=true->t.sub (x.params.map Pm.name) (c.ps.map λq=>iB q.name)=t:=λt ht=>by rw[I];exact Co t λu hu=>va (gy.1 ht u hu).1
   have d:=f;unfold kH at d;simp only[bn]at d;have A:∀a b,dI env (fC (fv c)) a=true->dI env (fC (fv c)) b=true->kH env (fv c) a b=true:=λa b h1 J=>by unfold kH;simp[d.1,h1,J]
   obtain⟨t1,t2⟩:=AP L;have s:=(E.ec i K).v x L;refine⟨C,d1,d2,λj o=>?_⟩;unfold JK at o;rcases bE.1 o with o|o
   ·obtain⟨n,hn,e⟩:=List.getElem_of_mem o;rw[K4]at e;rw[uP]at hn;have h1:n<x.params.length:=yO;have J:n<c.ps.length:=yO;have R:=br h1;have m2:=br J;rw[B _ (F _ R)]at e;subst e;have N:=d4 _ m2;have T:x.params[n].bound∈C:=W _ (y i K _ (t2 _ R)) (s.p _ R) (by rw[hN];exact F _ R);exact⟨A _ _ (d2 _ N) (d2 _ T),⟨N,T⟩,Cd (ac _ m2),s.p _ R⟩
   ·simp only[cU]at o;rw[B _ H]at o;subst o;have N:x.ty∈C:=W _ (y i K _ t1) s.ty (by rw[hN];exact H);have T:c.t∈C:=V _ (.inr rfl) d.2.1;exact⟨A _ _ (d2 _ N) (d2 _ T),⟨N,T⟩,s.ty,(w _ (.inr rfl)).1⟩
  ·cases h
 split at h
 ·split at h
  ·rename_i f;cases h;obtain⟨C,d1,d2,W,d4,V⟩:=key _ _ f;have d:=f;unfold kH at d;simp only[bn]at d;refine⟨C,d1,d2,λj o=>?_⟩;simp only[cU]at o;subst o;exact⟨f,⟨V _ (.inl rfl) d.2.1,V _ (.inr rfl) d.2.2⟩,(w _ (.inl rfl)).1,(w _ (.inr rfl)).1⟩
  ·cases h
 ·cases h
end
section
variable {env:List IF}{de:D}{c:mn}{j:Jm}{ctx:List Pm}{C:List Ty}{k:List Jm}
def EZ{out:List rT}:Ki out j=true↔j∈out.map (·.2):=by unfold Ki;rw[eV,bH];refine exists_congr λx=>and_congr_right λ_=>?_;rw[bn,fL,fL];exact⟨λ⟨a,b⟩=>fq a b,λe=>by rw[e];exact⟨rfl,rfl⟩⟩
def NR{o:List rT}{s:rT}:j∈(nG o s).map (·.2)↔j∈o.map (·.2)\/j=s.2:=by
 unfold nG;split
 ·rename_i h;rw[EZ]at h;exact⟨.inl,λg=>g.elim id λe=>e▸h⟩
 ·rw[bS,bE];simp
def FW:∀{l o:List rT}{j:Jm},j∈(l.foldl nG o).map (·.2)↔j∈o.map (·.2)\/j∈l.map (·.2)
 |[],o,j=>yS
 |s::l,o,j=>by rw[fy,FW,NR,bF,bx,or_assoc]
def FV:∀{l o:List rT}{x:rT},x∈l.foldl nG o->x∈o\/x∈l
 |[],o,x,h=>.inl h
 |s::l,o,x,h=>by
  rcases FV (l:=l) h with h|h
  ·rcases NQ h with h|h
   ·exact .inl h
   ·exact .inr (by simp[h])
  ·exact .inr (by simp[h])
def Jn:∀{l o:List rT},(o.map (·.2)).Nodup->((l.foldl nG o).map (·.2)).Nodup
 |[],o,h=>h
 |s::l,o,h=>Jn (l:=l) (by
  unfold nG;split
  ·exact h
  ·rename_i d;rw[EZ]at d;rw[bS,dk];exact⟨h,yS,λa ha b hb=>by simp at hb;subst hb;exactλe=>d (e▸ha)⟩)
def I9:∀{k:List Jm}{o:List rT},k.foldl (λout j=>(s4 env ctx j).foldl nG out) o=(k.flatMap (s4 env ctx)).foldl nG o
 |[],o=>rfl
 |j::k,o=>by rw[fy,eJ,pQ,I9]
def Nh{dx:D}(w:JC env ctx C de dx k)(u:∀j∈k,hB env ctx j=true):
 (∀x∈zO env ctx k,x.2.1∈C/\x.2.2∈C)/\(zO env ctx k).length<=100000/\∀j∈k,xd env ctx (zO env ctx k) j=true:=by
 have e:zO env ctx k=(k.flatMap (s4 env ctx)).foldl nG []:=I9;obtain⟨st,l⟩:∃st,st=zO env ctx k:=⟨_,rfl⟩;rw[<- l];rw[<- l]at e
 have p:∀x∈st,∃j∈k,x∈s4 env ctx j:=λx d=>by
  rw[e]at d;rcases FV d with h|h
  ·simp at h
  ·exact cb.1 h
 have f:∀j∈k,∀y∈(s4 env ctx j).map (·.2),y∈st.map (·.2):=λj f y o=>by rw[e,FW];obtain⟨z,hz,rfl⟩:=bH.1 o;exact .inr (bH.2 ⟨z,cb.2 ⟨j,f,hz⟩,rfl⟩)
 have i:=λj f=>BE w.P.hC (w.k j f).2.1.1 (w.k j f).2.1.2 (u j f);have hC:∀x∈st,x.2.1∈C/\x.2.2∈C:=λx d=>by obtain⟨j,f,d⟩:=p x d;exact(i j f).2.2.1 x d
 refine⟨hC,?_,λj g=>?_⟩
 ·have v:(st.map (·.2)).Nodup:=by rw[e];exact Jn yS
  have h1:=rG v (k:=wm C) λy o=>by obtain⟨z,hz,rfl⟩:=bH.1 o;exact oN.2 (hC z hz)
  rw[oO,bA]at h1;have J:C.length*C.length<=140*140:=lG w.P.hC.len w.P.hC.len;omega
 ·obtain⟨t,_⟩:=w.k j g;unfold xd;rw[t,iA,bn,bn,dE,dE,decide_eq_true_iff];refine⟨⟨λx d=>?_,λx d=>?_⟩,f j g _ (i j g).1⟩
  ·obtain⟨a,b⟩:=hC x d;rw[w.fo _ a,w.fo _ b];rfl
  ·obtain⟨r,n,d⟩:=p x d;obtain⟨m,s,q⟩:=(i r n).2.1 x d;unfold DY;rw[s];simp only[ij,xx,decide_eq_true_eq,Decidable.not_not];exactλy o=>f r n y (q y o)
def Oz(G:Tp env de c C)(e:oo env c=some k)(h:lq env c=true):DK env c (zO env (fv c) k)=true:=by
 unfold DK;unfold lq at h;rw[e]at h ⊢;have h:k.all (hB env (fv c))=true:=h;show (if k.length=0 then _ else _)=true;by_cases g:k.length=0
 ·have:k=[]:=cm g;subst this;rw[if_pos g];simp[zO]
 ·rw[if_neg g,dE];exact(Nh (G.ok k e (λe=>g (by rw[e];rfl))) (yU h)).2.2
def RC(h:lq env c=false):DK env c []=false:=by
 unfold DK;unfold lq at h;cases e:oo env c with
 |none=>rfl
 |some k=>
  rw[e]at h;show (if k.length=0 then _ else _)=false;cases k with
  |nil=>simp at h
  |cons j k=>simp[xd]
def Sm(E:nO env de){l o:List Ty}(hT:FY env l o)(m:∀i∈env,∀u∈cW i,u∈l)(hc:On l c)(h:0<=c.k/\c.k<=8):∃C,Tp env de c C:=by
 obtain⟨_,_,_,f⟩:=hc.st;have fit:c.fit:=⟨h,by have:=hc.n8;omega,λp n=>⟨(hc.b p n).2,hc.nl p n⟩,(f _ (.inl rfl)).1,(f _ (.inr rfl)).1⟩
 have len:∀k,oo env c=some k->k.length<=9:=λk e=>by
  unfold oo at e;split at e
  ·have:=MF e;have:=hc.n8;omega
  ·cases e
 by_cases g:∃k,oo env c=some k/\k≠[]
 ·obtain⟨k,e,hk⟩:=g;obtain⟨C,a,b,d⟩:=Sl E hT m hc e hk;exact⟨C,E,fit,len,λk' e' _=>by rw[e]at e';cases e';exact⟨E,a,fit.ctx.2,b,d⟩⟩
 ·exact⟨[],E,fit,len,λk e hk=>absurd ⟨k,e,hk⟩ g⟩
end
end Go.VC
namespace Go.VC
def VU{c:mn}{i:Int}{c1 c2:S}{b:Int}{h:D}{f:Int}{g d:S}{e a:D}{e0:Int}{e1 e2:S}{e3 e4:D}(hc:sa c i c1 c2 b h f g d e a e0 e1 e2 e3 e4):[.int i,.str c1,.str c2,.int b,h,.int f,.str g,.str d,e,a,.int e0,.str e1,.str e2,e3,e4]=ny c:=by obtain⟨rfl,rfl,rfl,rfl,rfl,⟨rfl,rfl,rfl,rfl,rfl⟩,⟨rfl,rfl,rfl,rfl,rfl⟩⟩:=hc;rw[zL]
end Go.VC
namespace Go.VC.cc
open Go Go.VC Go.Proofs
def YN:dH:={tt:=tt,n:=24,n0:=4,own:=[22,23]}
def Rq{l:List mn}{d:D}(n:d=bt ny l)(hl:l.length<=1048576){c:mn}{m:Int}{c1 c2:S}{b:Int}{j:D}{g:Int}{i e:S}{f a:D}{e0:Int}{e1 e2:S}{e3 e4:D}(hc:sa c m c1 c2 b j g i e f a e0 e1 e2 e3 e4){K:PV->List Ob->Prop}
 (h:∀r,r=bt ny (l++[c])->K (.tup []) [.box [.row 45 4],.box [.str c1],.box [.str c2],.dead,.row 45 r true]):
 FT 81 [.box [.row 45 3],.box [.str c1],.box [.str c2],.row 45 d true] [.int .i64 m,.int .i64 b,.lst 73 j,dQ g i e f a,dQ e0 e1 e2 e3 e4,.box 0 0,.box 1 0,.box 2 0] K:=by
 refine el YN Tryz.func81 λA C L X=>?_;have o:=h (A.app d (A.lit [[.int m,.str c1,.str c2,.int b,j,.int g,.str i,.str e,f,a,.int e0,.str e1,.str e2,e3,e4]])) (by rw[VU hc,X.a,n];exact cD (k:=[c]));have hB:∀row:List D,A.gr (A.add (A.len d) (A.len (A.lit [row]))) 4294967296:=λrow=>by rw[X.a,n];simp only[SD];omega
 clear h;cbv;repeat' (first|apply bk|exact zf|(intro J;cbv)|apply bB)
 all_goals try first|exact hB _
 all_goals first|exact o|trace_state
def Y6:dH:={tt:=tt,n:=135,own:=[7],live:=[81]}
def F45{env:List IF}{de:D}(he:de=bt dy env)(dJ:ey env)(I:∀m n,(cp env m n).1.params.length<=1000000)(Q:∀m n,(dP env m n).1.params.length<=1000000){m n:S}{K:PV->List Ob->Prop}
 (h:∀d,d=bt ny (qb env m n)->K (.lst 45 d) []):FT 45 [] [.lst 97 de,.str m,.str n] K:=by
 have I:=I m n;have Q:=Q m n;refine en Y6 Tryz.func45 λA C L X=>?_;have Y:=fg X.a;have Z:=oY X.a;have e0:A.eq 0 0=true:=yX;cbv;refine X.call (F82 he dJ λu0 u1 u2 u3 u4 u5 u6 r1 r2 hv ah H=>?_);obtain⟨_,P,R⟩:=hv;by_cases e:(dP env m n).2.2=0
 ·have z:A.eq r2 0=true:=by rw[Z,H,e];rfl
  unfold qb at h;rw[if_pos e]at h;cbv;repeat' (first|apply bk|exact zf|(intro J;first|exact yB z J|cbv)|apply bB)
  refine X.call (F83 P yO λE f=>?_);cbv;refine X.call (Rq (l:=[]) rfl yS (c:=⟨7,m,n,0,(dP env m n).1.params.map (j5 false),Ty.zero,Ty.zero⟩) ⟨rfl,rfl,rfl,rfl,f,⟨rfl,rfl,rfl,rfl,rfl⟩,⟨rfl,rfl,rfl,rfl,rfl⟩⟩ λd1 w=>?_);cbv;refine X.call (Rq w yS (c:=⟨8,m,n,0,(dP env m n).1.params.map (j5 false),Ty.zero,(dP env m n).1.ty⟩) ⟨rfl,rfl,rfl,rfl,f,⟨rfl,rfl,rfl,rfl,rfl⟩,R⟩ λd2 o=>?_);have q:=h d2 o;cbv;exact q
 have z:A.eq r2 0=false:=by rw[Z,H];simp[e]
 unfold qb at h;rw[if_neg e]at h;cbv;repeat' (first|apply bk|exact zf|(intro J;first|exact yB z J|cbv)|apply bB)
 clear z P R ah H;refine X.call (Rp he dJ λv0 v1 v2 v3 v4 v5 v6 v7 v8 v9 ad aj r3 r4 hx ai G=>?_);obtain⟨_,ag,ae,ac⟩:=hx;by_cases e2:(cp env m n).2.2=0
 rotate_left
 ·have z:A.eq r4 0=false:=by rw[Z,G];simp[e2]
  have B:A.not (A.eq r4 0)=true:=by rw[z,Y];rfl
  rw[if_pos e2]at h;have q:=h (.list []) rfl;cbv;repeat' (first|apply bk|exact zf|(intro J;first|exact yB z J|exact yB (B) J|cbv)|apply bB)
  exact q
 have z:A.eq r4 0=true:=by rw[Z,G,e2];rfl
 have B:A.not (A.eq r4 0)=false:=by rw[z,Y];rfl
 rw[if_neg (yU e2)]at h;cbv;repeat' (first|apply bk|exact zf|(intro J;first|exact yB z J|exact yB (B) J|cbv)|apply bB)
 clear z B ai G;refine X.call (F83 ag yO λE f=>?_);obtain⟨ps,N⟩:∃ps,ps=(cp env m n).1.params.map (j5 true):=⟨_,rfl⟩;rw[<- N]at h f;have ap:ps.length<=1000000:=by rw[N,bA];exact I
 cbv;refine X.call (Rq (l:=[]) rfl yS (c:=⟨1,m,n,0,ps,Ty.zero,Ty.zero⟩) ⟨rfl,rfl,rfl,rfl,f,⟨rfl,rfl,rfl,rfl,rfl⟩,⟨rfl,rfl,rfl,rfl,rfl⟩⟩ λd1 w=>?_);obtain⟨s,O,j⟩:=lenOf f;cbv;refine lP X (λy=>y.1<=s/\y.2.1++tA m n ps y.1 (ps.drop y.1)=⟨1,m,n,0,ps,Ty.zero,Ty.zero⟩::tA m n ps 0 ps/\y.2.1.length<=y.1+1/\y.2.2=bt ny y.2.1) (λy=>s-y.1) (0,[⟨1,m,n,0,ps,Ty.zero,Ty.zero⟩],d1) ⟨bw _,rfl,yS,w⟩ [0,1,3,4,6,7] (λ(y:Nat×List mn×D)=>⟨[(72,.int .i64 y.1),(71,.int .i64 (A.len E)),(70,.lst 73 E),(17,.lst 73 E),(14,.box 4 0),(9,.box 3 0),(8,.cu 81 [.box 2 0,.box 0 0,.box 1 0]),(7,.box 2 0),(5,.box 1 0),(4,.box 0 0),(0,.lst 97 de)],[.box [.str m],.box [.str n],.box [.row 45 5],.box [.int .i64 0,.str [],.str [],.lst 29 (.list []),.lst 57 (.list [])],.box [.str v0,.lst 73 v1,.int .i64 v2,.str v3,.str v4,.lst 29 v5,.lst 57 v6,.int .i64 v7,.str v8,.str v9,.lst 29 ad,.lst 57 aj],.row 45 y.2.2 true]⟩) ?_;rintro⟨i,v,d⟩ ⟨hi,t,V,F⟩;simp only at hi t V F;cbv;constructor<;>intro h1
 ·have h5:i<ps.length:=lY X.a j h1;have kv:=(im X.a f h5).2.1;have W:=iX X.a f h5;have T:=jX X.a h5;rw[bJ h5,tA]at t;clear h1;by_cases e3:ps[i].var=2
  ·have z:A.eq (A.asInt (A.cell E (bj i) 1)) 2=true:=by rw[Z,kv,e3];rfl
   have B:A.not (A.eq (A.asInt (A.cell E (bj i) 1)) 2)=false:=by rw[z,Y];rfl
   rw[if_neg (yU e3)]at t;cbv;repeat' (first|apply bk|exact zf|(intro J;first|exact yB z J|exact yB (B) J|cbv)|apply bB)
   all_goals try first|exact W|exact T
   exact⟨(i+1,v,d),⟨yP,t,yP,F⟩,yP,[0,1,2,3,4,5],rfl,yc⟩
  ·have z:A.eq (A.asInt (A.cell E (bj i) 1)) 2=false:=by rw[Z,kv];simp[e3]
   have B:A.not (A.eq (A.asInt (A.cell E (bj i) 1)) 2)=true:=by rw[z,Y];rfl
   rw[if_pos e3]at t;cbv;repeat' (first|apply bk|exact zf|(intro J;first|exact yB z J|exact yB (B) J|cbv)|apply bB|(refine X.call (Rq F yO (c:=⟨2,m,n,(i:Int),ps,Ty.zero,Ty.zero⟩) ⟨rfl,rfl,rfl,rfl,f,⟨rfl,rfl,rfl,rfl,rfl⟩,⟨rfl,rfl,rfl,rfl,rfl⟩⟩ λd2 o=>?_);cbv))
   all_goals try first|exact W|exact T
   refine⟨(i+1,_,d2),⟨yP,?_,?_,o⟩,yP,[0,1,2,3,4,7],rfl,?_⟩
   ·simpa using t
   ·simp;omega
   exact yc
 have h5:i=s:=gY X.a j h1;have t:v=⟨1,m,n,0,ps,Ty.zero,Ty.zero⟩::tA m n ps 0 ps:=by rw[<- t,h5,O,ch,tA,cz]
 have V:v.length<=1000001:=yO;have h:∀k d,k=Gr env m n ps (cp env m n).1->d=bt ny (v++k)->K (.lst 45 d) []:=λk d hk F=>h d (by rw[F,hk,t];rfl);clear h1 h5 hi w t N;cbv;refine X.call (F85 f yO λw0 w1 w2 w3 w4 hw=>?_);cbv;refine X.call (TZ he dJ λp r s2 hs=>?_);have hs:p=(pq env m n).1/\r=(pq env m n).2:=by unfold pq;cases hE:lR env m n<;>(rw[hE]at hs;cases hs;exact⟨rfl,rfl⟩)
 obtain⟨u,x⟩:=hs;unfold Gr at h;by_cases e3:pq env m n=(m,n)
 ·rw[if_pos e3]at h;rw[e3]at u x;obtain rfl:p=m:=u;obtain rfl:r=n:=x;have z1:A.seq p p=true:=by rw[X.a];simp[SD]
  have z2:A.seq r r=true:=by rw[X.a];simp[SD]
  cbv;repeat' (first|apply bk|exact zf|(intro J;first|exact yB z1 J|exact yB z2 J|cbv)|apply bB)
  refine X.call (Rq F yO (c:=⟨3,p,r,0,ps,mb p r ps,(cp env p r).1.upper⟩) ⟨rfl,rfl,rfl,rfl,f,hw,ac⟩ λd2 o=>?_);cbv;refine X.call (Rq o yQ (c:=⟨4,p,r,0,ps,(cp env p r).1.lower,mb p r ps⟩) ⟨rfl,rfl,rfl,rfl,f,ae,hw⟩ λd3 M=>?_);have q:=h _ d3 rfl (by rw[M];simp);cbv;exact q
 ·rw[if_neg e3]at h
  have z:A.seq p m=false\/A.seq p m=true/\A.seq r n=false:=by
   rw[X.a,u,x];by_cases g:(pq env m n).1=m
   ·refine .inr ⟨by simp[SD,g],?_⟩;have:(pq env m n).2≠n:=λg2=>e3 (fq g g2);simp[SD,this]
   ·exact .inl (by simp[SD,g])
  have zz:(A.seq p m=true->A.seq r n=true->False):=λa b=>by rcases z with z|⟨_,z⟩<;>simp_all
  cbv;repeat' (first|apply bk|exact zf|(intro J;cbv)|apply bB|(refine X.call (F85 f yO λx0 x1 x2 x3 x4 U=>?_);cbv))
  all_goals first
   |exact(zz yA yA).elim
   |(rw[<- u,<-x]at h
     refine X.call (Rq F yO (c:=⟨5,m,n,0,ps,mb m n ps,mb p r ps⟩) ⟨rfl,rfl,rfl,rfl,f,hw,U⟩ λd2 o=>?_);cbv;refine X.call (Rq o yQ (c:=⟨6,m,n,0,ps,mb p r ps,mb m n ps⟩) ⟨rfl,rfl,rfl,rfl,f,U,hw⟩ λd3 M=>?_);have q:=h _ d3 rfl (by rw[M];simp);cbv;exact q)
   |trace_state
end Go.VC.cc
namespace Go.VC
def DL{m n:S}{ps:List Pm}:∀{l:List Pm}{i:Nat},(tA m n ps i l).length<=l.length
 |[],i=>by simp[tA]
 |p::l,i=>by have:=DL (m:=m) (n:=n) (ps:=ps) (l:=l) (i:=i+1);rw[tA];split<;>simp<;>omega
def ED{env:List IF}(a:ml env)(m n:S):(qb env m n).length<=11:=by
 have h1:=Ib a m n;unfold qb;split
 ·simp
 ·split
  ·simp
  ·have J:=DL (m:=m) (n:=n) (ps:=(cp env m n).1.params.map (j5 true)) (l:=(cp env m n).1.params.map (j5 true)) (i:=0);rw[bA]at J;have h3:∀ps x,(Gr env m n ps x).length=2:=λps x=>by unfold Gr;split<;>rfl
   rw[bI,bp,h3];omega
end Go.VC
namespace Go.VC.cc
open Go Go.VC Go.Proofs
section
variable {env:List IF}{de:D}{m:S}{K:PV->List Ob->Prop}
def Y8:dH:={tt:=tt,n:=43,own:=[6,38]}
def F42(E:nO env de)
 (h0:Ci env=false->K (.tup [.row 45 0,.int .i64 1]) [.row 45 (.list []) true]) (h1:fF env m=none->K (.tup [.row 45 0,.int .i64 6]) [.row 45 (.list []) true])
 (g:∀i,Ci env=true->fF env m=some i->∀d,d=bt ny [pA m]->K (.tup [.row 45 0,.int .i64 0]) [.row 45 d true]):
 FT 42 [] [.lst 97 de,.str m,.str []] K:=by
 refine eo Y8 Tryz.func42 λA C L X=>?_;have Y:=fg X.a;have c:A.not true=false:=by rw[Y];rfl
 have e:A.not false=true:=by rw[Y];rfl
 have f:A.seq [] []=true:=yX;have h:A.not (A.seq [] [])=false:=by rw[f,c]
 cbv;refine X.call (F46 E.he E.dJ E.ec E.mi E.hT λb hb=>?_);cases b with
 |false=>
  have q:=h0 hb.symm;cbv;repeat' (first|apply bk|exact zf|(intro J;first|exact yB e J|cbv)|apply bB)
  all_goals exact q
 |true=>
  cbv;repeat' (first|apply bk|exact zf|(intro J;first|exact yB c J|cbv)|apply bB)
  refine X.call (WW E.he E.dJ rfl λg0 g1 g2 g3 g4 b2 j a=>?_);cases hf:fF env m with
  |none=>
   rw[hf]at a;obtain rfl:b2=false:=a;have q:=h1 hf;cbv;repeat' (first|apply bk|exact zf|(intro J;first|exact yB e J|exact yB f J|exact yB h J|cbv)|apply bB)
   all_goals exact q
  |some i=>
   rw[hf]at a;obtain rfl:b2=true:=a;have q:=g i hb.symm hf (A.lit [[.int 0,.str m,.str [],.int 0,.list [],.int 0,.str [],.str [],.list [],.list [],.int 0,.str [],.str [],.list [],.list []]]) (by rw[X.a];show D.list [_]=D.list [ny (pA m)];rw[zL];rfl);cbv;repeat' (first|apply bk|exact zf|(intro J;first|exact yB c J|exact yB f J|exact yB h J|cbv)|apply bB)
   all_goals first|exact q|trace_state
def ZX:dH:={tt:=tt,n:=42,own:=[6]}
def F12(E:nO env de)
 (h0:∀e:Int,e=1\/e=6->K (.tup [.lst 45 (.list []),.int .i64 e]) [])
 (h1:∀i d,Ci env=true->fF env m=some i->d=bt ny (FP env m i)->(FP env m i).length<=4294967290->K (.tup [.lst 45 d,.int .i64 0]) []):
 FT 12 [] [.lst 97 de,.str m] K:=by
 refine en ZX Tryz.func12 λA C L X=>?_;have Y:=fg X.a;have Z:=oY X.a;have H:A.eq 0 0=true:=by rw[Z];rfl
 have F:A.eq 1 0=false:=by rw[Z];rfl
 have G:A.eq 6 0=false:=by rw[Z];rfl
 have V:A.not (A.eq 0 0)=false:=by rw[H,Y];rfl
 have N:A.not (A.eq 1 0)=true:=by rw[F,Y];rfl
 have R:A.not (A.eq 6 0)=true:=by rw[G,Y];rfl
 cbv;refine X.call (F42 E (λe=>?_) (λe=>?_) λi I hf d M=>?_)
 ·have q:=h0 1 (.inl rfl);cbv;repeat' (first|apply bk|exact zf|(intro J;first|exact yB F J|exact yB N J|cbv)|apply bB)
  exact q
 ·have q:=h0 6 (.inr rfl);cbv;repeat' (first|apply bk|exact zf|(intro J;first|exact yB G J|exact yB R J|cbv)|apply bB)
  exact q
 have u:=zH (tB I);have hl:=E.nl (kf hf);have U:=M7 i;have h1:=h1 i;cbv;repeat' (first|apply bk|exact zf|(intro J;first|exact yB H J|exact yB V J|cbv)|apply bB)
 refine X.call (WW E.he E.dJ rfl λg0 g1 g2 g3 g4 b w hb=>?_);rw[hf]at w;cbv;refine X.call (F44 w (ly E.dJ hf) (by show (iq i).length<_;omega) λr hr=>?_);have hr:r=bt cT (pU (iq i)):=hr;obtain⟨ns,o⟩:∃ns,ns=pU (iq i):=⟨_,rfl⟩;unfold FP at h1;rw[<- o]at hr h1 U
 have p:∀k,((ns.take k).flatMap (qb env m)).length<=11*k:=λk=>by
  have J:∀l:List S,(l.flatMap (qb env m)).length<=11*l.length:=λl=>by
   induction l with
   |nil=>simp
   |cons x l W=>rw[eJ,bp,bI];have:=ED u m x;omega
  have:=J (ns.take k);have:(ns.take k).length<=k:=by rw[cF];omega
  omega
 obtain⟨h,n,c⟩:=lenOf hr;clear w hb o;cbv;refine lP X (λy=>y.1<=h/\y.2=bt ny (pA m::(ns.take y.1).flatMap (qb env m))) (λy=>h-y.1) (0,d) ⟨bw _,M⟩ [0] (λ(y:Nat×D)=>⟨[(30,.int .i64 y.1),(29,.int .i64 (A.len r)),(28,.lst 9 r),(6,.row 45 0),(0,.lst 97 de),(1,.str m)],[.row 45 y.2 true]⟩) ?_;rintro⟨k,d2⟩ ⟨hk,g⟩;simp only at hk g;cbv;constructor<;>intro J
 ·have h5:k<ns.length:=lY X.a c J;have P:A.bG (A.cell r (bj k) 0)=ns[k]:=pT X.a hr h5;have B:=iX X.a hr h5;have T:=jX X.a h5;have s:=p k;have z:=ED u m (A.bG (A.cell r (bj k) 0));have t:=fu (f:=qb env m) h5;rw[<- P]at t;clear J;cbv;refine⟨B,?_⟩;refine X.call (F45 E.he E.dJ (λa b=>by have:=Ib u a b;omega) (λa b=>by have:=OC u a b;omega) λv j=>?_);have Q:A.app d2 v=bt ny (pA m::(ns.take (k+1)).flatMap (qb env m)):=by rw[t];refine gv ?_ (cD (f:=ny) (l:=pA m::(ns.take k).flatMap (qb env m)));rw[<- g,<-X.a];exact congrArg (A.app d2) j
  have hB:A.gr (A.add (A.len d2) (A.len v)) 4294967296:=by have h3:A.len v=bj (qb env m (A.bG (A.cell r (bj k) 0))).length:=gE X.a j;have J:A.len d2=bj (pA m::(ns.take k).flatMap (qb env m)).length:=gE X.a g;obtain⟨q,O⟩:∃q,q=(qb env m (A.bG (A.cell r (bj k) 0))).length:=⟨_,rfl⟩;rw[<- O]at h3 z;rw[J,h3,X.a];simp only[SD,bI];omega
  refine p1 ?_;exact⟨(k+1,_),⟨yP,Q⟩,yP,[0],rfl,yc⟩
 have h5:k=h:=gY X.a c J;have s:=p k;rw[h5,n,bz]at g s;have q:=h1 d2 I hf g (by simp only[bI];omega);cbv;exact q
end
end Go.VC.cc
namespace Go.VC
def Qg{env:List IF}{m:S}{i:IF}:∀c∈FP env m i,0<=c.k/\c.k<=8:=by
 intro c hc;unfold FP at hc;rcases bx.1 hc with rfl|hc
 ·exact⟨by simp[pA],by simp[pA]⟩
 ·obtain⟨n,_,hc⟩:=cb.1 hc;unfold qb at hc;split at hc
  ·simp only[bx,gH,or_false]at hc;rcases hc with rfl|rfl<;>exact⟨by simp[pA],by simp[pA]⟩
  ·split at hc
   ·simp at hc
   ·rcases bx.1 hc with rfl|hc
    ·exact⟨by simp[pA],by simp[pA]⟩
    ·rcases bE.1 hc with hc|hc
     ·obtain⟨e,_⟩:=tz hc;rw[e];decide
     ·unfold Gr at hc;split at hc<;>(simp only[bx,gH,or_false]at hc;rcases hc with rfl|rfl<;>exact⟨by simp[pA],by simp[pA]⟩)
def NK{env:List IF}(e:ml env)(ec:∀i∈env,i.fit){l:List Ty}(hl:∀i∈env,∀u∈cW i,u∈l){m:S}{i:IF}(hf:fF env m=some i):∀c∈FP env m i,On l c:=by
 have b:=ec i (kf hf);have f:i.path=m:=by unfold fF at hf;simpa using je hf
 intro c hc;unfold FP at hc;rcases bx.1 hc with rfl|hc
 ·exact Mh l m
 ·obtain⟨n,d,hc⟩:=cb.1 hc;rw[ve]at d;refine Mf e ec hl (f▸b.path) ?_ c hc;unfold iq at d;simp only[bE,bH]at d;rcases d with(⟨x,a,rfl⟩|⟨x,a,rfl⟩)|⟨x,a,rfl⟩
  ·exact(b.t x a).n
  ·exact(b.v x a).n
  ·exact(b.a x a).n
end Go.VC
namespace Go.VC.cc
open Go Go.VC Go.Proofs
def abL{env:List IF}{de:D}{c:mn}{C:List Ty}(G:Tp env de c C){o:Int}{c1 c2:S}{f:Int}{n:D}{l:Int}{m i:S}{j d:D}{e0:Int}{e1 e2:S}{e3 e4:D}(hc:sa c o c1 c2 f n l m i j d e0 e1 e2 e3 e4){K:PV->List Ob->Prop}
 (h:∀b k dx a,lq env c=(b&&k.all (hB env (fv c)))->(k≠[]->b=true/\oo env c=some k)->k.length<=9->dx=(if b=true then bt dB (fv c)else .list [])->a=bt dD k->K (.tup [.lst 73 dx,.lst 50 a,.bool b]) []):
 FC Tryz.prog tt 13 [] [.lst 97 de,xc o c1 c2 f n l m i j d e0 e1 e2 e3 e4] K:=
 X3 G.E hc G.fit (λe=>h false [] _ _ (by unfold lq;rw[e];rfl) (λg=>absurd rfl g) (by simp) rfl rfl) λk dx a e p hl=>h true k dx a (by unfold lq;rw[e];rfl) (λ_=>⟨rfl,e⟩) (G.len k e) (by rw[if_pos rfl];exact p) hl
def abE{env:List IF}{de:D}{c:mn}{C:List Ty}(G:Tp env de c C){s:Int}{c1 c2:S}{m:Int}{r:D}{p:Int}{q n:S}{o i:D}{e0:Int}{e1 e2:S}{e3 e4:D}(hc:sa c s c1 c2 m r p q n o i e0 e1 e2 e3 e4){v:Bool}(t:v=lq env c){K:PV->List Ob->Prop}
 (h:∀st d,(∀k,oo env c=some k->k≠[]->∀x∈st,x.2.1∈C/\x.2.2∈C)->st.length<=100000->DK env c st=v->(v=true->∀k,oo env c=some k->∀j∈k,xd env (fv c) st j=true)->d=bt jA st->K (.tup [.lst 60 d,.bool v]) []):
 FC Tryz.prog tt 15 [] [.lst 97 de,xc s c1 c2 m r p q n o i e0 e1 e2 e3 e4] K:=by
 subst t;refine F15 G hc (λe=>?_) λk d e e2 f=>?_
 ·rw[e]at h;exact h [] _ (by simp) (by simp) (RC e) (λg=>by cases g) rfl
 ·have u:∀j∈k,hB env (fv c) j=true:=by have:=e;unfold lq at this;rw[e2]at this;simpa using this
  have l:=Oz G e2 e;rw[e]at h;by_cases g:k=[]
  ·subst g;exact h (zO env (fv c) []) d (λk' e' w=>by rw[e2]at e';cases e';exact absurd rfl w) (by simp[zO]) l (λ_ k' e'=>by rw[e2]at e';cases e';simp) f
  ·obtain⟨a,b,z⟩:=Nh (G.ok k e2 g) u;exact h _ d (λk' e' _=>a) b l (λ_ k' e'=>by rw[e2]at e';cases e';exact z) f
attribute [-instance] instDrY
def F4(aw:∀{K:PV->List Ob->Prop},K (.bool true) []->FC Tryz.prog tt 9 [] [] K){o n:List IF}{d1 d2:D}(P:HS o d1)(En:HS n d2){m:S}{K:PV->List Ob->Prop}(h:K (.bool true) []):
 FC Tryz.prog tt 4 [] [.lst 97 d1,.lst 97 d2,.str m] K:=by
 refine FC.enter (G:=cf 124) fD mixed ⟨Tryz.func4,by rfl,rfl⟩ rfl rfl rfl ?_;intro A C X1 X;have Y:=fg X.a;have Z:=oY X.a;have j:A.not true=false:=by rw[Y];rfl
 have I:A.not false=true:=by rw[Y];rfl
 cbv;refine X.call (aw ?_);cbv;repeat' (first|apply bk|exactλ(_:FF)=>by kernel_rfl|(intro J;first|exact absurd ((j).symm.trans J) (by decide)|cbv)|apply bB)
 refine X.call (FC.lf (F10 P λb1 E=>?_));cases b1
 ·clear E;cbv;repeat' (first|apply bk|exactλ(_:FF)=>by kernel_rfl|(intro J;first|exact absurd ((I).symm.trans J) (by decide)|exact absurd ((j).symm.trans J) (by decide)|cbv)|apply bB)
  exact h
 cbv;repeat' (first|apply bk|exactλ(_:FF)=>by kernel_rfl|(intro J;first|exact absurd ((j).symm.trans J) (by decide)|cbv)|apply bB)
 refine X.call (FC.lf (F10 En λb2 M=>?_));cases b2
 ·clear E M;cbv;repeat' (first|apply bk|exactλ(_:FF)=>by kernel_rfl|(intro J;first|exact absurd ((I).symm.trans J) (by decide)|exact absurd ((j).symm.trans J) (by decide)|cbv)|apply bB)
  exact h
 cbv;repeat' (first|apply bk|exactλ(_:FF)=>by kernel_rfl|(intro J;first|exact absurd ((j).symm.trans J) (by decide)|cbv)|apply bB)
 refine X.call (FC.lf (F11 P En (by rw[X.a];rfl) λb3 W=>?_));cases b3
 ·clear E M W;cbv;repeat' (first|apply bk|exactλ(_:FF)=>by kernel_rfl|(intro J;first|exact absurd ((I).symm.trans J) (by decide)|exact absurd ((j).symm.trans J) (by decide)|cbv)|apply bB)
  exact h
 have E1:nO o d1:=⟨P.he,P.dJ,P.ec,P.Yp,λ_=>E rfl⟩;have E2:nO n d2:=⟨En.he,En.dJ,En.ec,En.Yp,λ_=>M rfl⟩;obtain⟨_,C0,hT⟩:=W rfl;clear E M W;have z0:A.eq 0 0=true:=by rw[X.a];rfl
 have y0:A.not (A.eq 0 0)=false:=by rw[z0,j]
 cbv;repeat' (first|apply bk|exactλ(_:FF)=>by kernel_rfl|(intro J;first|exact absurd ((j).symm.trans J) (by decide)|cbv)|apply bB)
 refine X.call (FC.lf (F12 E1 (λe he=>?_) λi d V hf hd p=>?_))
 ·have z:A.eq e 0=false:=by rw[Z];rcases he with rfl|rfl<;>rfl
  have y:A.not (A.eq e 0)=true:=by rw[z,I]
  have q:K (.bool (A.eq (A.len (.list [])) 0)) []:=by rw[X.a];exact h
  cbv;repeat' (first|apply bk|exactλ(_:FF)=>by kernel_rfl|(intro J;first|exact absurd ((z).symm.trans J) (by decide)|exact absurd ((y).symm.trans J) (by decide)|cbv)|apply bB)
  exact q
 have O:=NK (l:=kL n (sI [o,n])) (zH (tB V)) P.ec (λi U u hu=>by unfold kL sI;refine cy _ (cb.2 ⟨o,by simp,cb.2 ⟨i,U,hu⟩⟩)) hf;have ao:∀i∈n,∀u∈cW i,u∈kL n (sI [o,n]):=λi U u hu=>by unfold kL;exact cP _ (cb.2 ⟨i,U,hu⟩)
 have af:=Qg (env:=o) (m:=m) (i:=i);obtain⟨l,hl⟩:∃l,l=FP o m i:=⟨_,rfl⟩;rw[<- hl]at hd p O af;obtain⟨ad,av,N⟩:=lenOf hd;clear hl;cbv;repeat' (first|apply bk|exactλ(_:FF)=>by kernel_rfl|(intro J;first|exact absurd ((z0).symm.trans J) (by decide)|exact absurd ((y0).symm.trans J) (by decide)|cbv)|apply bB)
 refine X.ka (λ(i:Nat)=>⟨[(51,.int .i64 i),(50,.int .i64 (A.len d)),(49,.lst 45 d),(1,.lst 97 d2)],[]⟩) (λi=>i<=ad) (λi=>ad-i) 0 (bw _) ?_ ?_
 ·refine⟨[],rfl,?_⟩
  (cbv;repeat' apply bk);all_goals try first|trivial|rfl|(rw[X.a];rfl)
 intro k hk;cbv;refine⟨λh1=>?_,λh1=>?_⟩
 rotate_left
 ·cbv;exact h
 have h5:k<l.length:=by obtain rfl:=X.a;simp only[N,SD,fP]at h1;omega
 have w:=aab X.a hd h5;have ar:A.idx (bj k) (A.len d):=by rw[X.a,hd];exact cY h5
 have an:A.inr .i64 (A.add (bj k) 1):=by rw[X.a];exact fN h5 (by omega)
 obtain⟨C,G⟩:=Sm E2 hT ao (O _ (br h5)) (af _ (br h5));obtain⟨c,hc⟩:∃c,c=l[k]:=⟨_,rfl⟩;rw[<- hc]at G w;clear h1 hc;cbv;refine⟨ar,?_⟩;refine X.call (FC.lf (abL G w λb s dx Q hh R aB ab p=>?_));have hJ:s≠[]->JC n (fv c) C d2 dx s:=λg=>by obtain⟨rfl,e⟩:=R g;rw[ab,if_pos rfl];exact G.ok s e g
 obtain⟨f,T,a⟩:=lenOf p;clear ab;cbv
 refine X.ka (λ(y:Nat×Bool)=>⟨[(65,.int .i64 y.1),(64,.int .i64 (A.len Q)),(63,.lst 50 Q),(51,.int .i64 k),(50,.int .i64 (A.len d)),(49,.lst 45 d),(14,.bool y.2),(12,.lst 50 Q),(11,.lst 73 dx),(10,.box 0 0),(1,.lst 97 d2)],[.box [.int .i64 (A.asInt (A.cell d (bj k) 0)),.str (A.bG (A.cell d (bj k) 1)),.str (A.bG (A.cell d (bj k) 2)),.int .i64 (A.asInt (A.cell d (bj k) 3)),.lst 73 (A.cell d (bj k) 4),.int .i64 (A.asInt (A.cell d (bj k) 5)),.str (A.bG (A.cell d (bj k) 6)),.str (A.bG (A.cell d (bj k) 7)),.lst 29 (A.cell d (bj k) 8),.lst 57 (A.cell d (bj k) 9),.int .i64 (A.asInt (A.cell d (bj k) 10)),.str (A.bG (A.cell d (bj k) 11)),.str (A.bG (A.cell d (bj k) 12)),.lst 29 (A.cell d (bj k) 13),.lst 57 (A.cell d (bj k) 14)]]⟩)
  (λy=>y.1<=f/\y.2=(b&&(s.take y.1).all (hB n (fv c)))) (λy=>f-y.1) (0,b) ⟨bw _,by simp⟩ ?_ ?_
 ·refine⟨[0],rfl,?_⟩
  (cbv;repeat' apply bk);all_goals try first|trivial|rfl|(rw[X.a];rfl)
 rintro⟨i,v⟩ ⟨U,V⟩;simp only at U V;cbv;have x:∀{i:Nat}(g:i<s.length),(s.take (i+1)).all (hB n (fv c))=((s.take i).all (hB n (fv c))&&hB n (fv c) s[i]):=λg=>by rw[cj g,nI];simp
 refine⟨λh1=>?_,λh1=>?_⟩
 ·have g5:i<s.length:=by obtain rfl:=X.a;simp only[a,SD,fP]at h1;omega
  obtain⟨k1,k2⟩:=Hg X.a p g5;have t:A.idx (bj i) (A.len Q):=by rw[X.a,p];exact cY g5
  have F:A.inr .i64 (A.add (bj i) 1):=by rw[X.a];exact fN g5 (by omega)
  have aI:=hJ (λe=>by rw[e]at g5;simp at g5);obtain⟨_,⟨j1,j2⟩,_,_⟩:=aI.k _ (br g5);have hs:=x g5;clear h1;have hs:(v&&hB n (fv c) s[i])=(b&&(s.take (i+1)).all (hB n (fv c))):=by rw[hs,<-Bool.and_assoc,<-V]
  cbv;repeat' (first|apply bk|exactλ(_:FF)=>by kernel_rfl|(intro J;cbv)|apply bB|(refine X.call (FC.lf (F14 E2.he E2.dJ aI.P.hc (by have:=aI.P.oV;omega) aI.P.hC j1 j2 (ue aI.P.hC j1 j2) k1 k2 λr hr=>?_));cbv))
  all_goals try first|exact t|exact F
  all_goals first
   |(have z:v=true:=by assumption
     rw[z,iA]at hs;refine⟨(i+1,r),⟨by simp only;omega,hr.trans hs⟩,by simp only;omega,[0],rfl,?_⟩
     (cbv;repeat' apply bk);all_goals try first|trivial|rfl|(rw[X.a];rfl)
     done)
   |(have z:v=false:=by assumption
     rw[z,tp]at hs;refine⟨(i+1,false),⟨by simp only;omega,hs⟩,by simp only;omega,[0],rfl,?_⟩
     (cbv;repeat' apply bk);all_goals try first|trivial|rfl|(rw[X.a];rfl)
     done)
   |trace_state
 have g5:i=f:=by obtain rfl:=X.a;simp only[a,SD,fP]at h1;omega
 rw[g5,T,bz,<-hh]at V;clear h1 g5 U x;cbv;have nb:A.not (A.beq v v)=false:=by rw[Y];cases v<;>(rw[X.a];rfl)
 refine X.call (FC.lf (abE G w V λst ds L ae ag B ac=>?_));cbv;refine X.call (FC.lf (F16 G w λb4 aq=>?_));obtain rfl:b4=v:=aq.trans V.symm;cbv;repeat' (first|apply bk|exactλ(_:FF)=>by kernel_rfl|(intro J;first|exact absurd ((nb).symm.trans J) (by decide)|cbv)|apply bB|(refine X.call (FC.lf (F17 ac ae G L w λb5 am=>?_));cbv))
 ·have y:A.not (A.beq b5 b4)=true:=by assumption
  rw[am.trans ag,nb]at y;cases y
 refine X.ka (λ(i:Nat)=>⟨[(106,.int .i64 i),(105,.int .i64 (A.len Q)),(104,.lst 50 Q),(51,.int .i64 k),(50,.int .i64 (A.len d)),(49,.lst 45 d),(17,.lst 60 ds),(14,.bool b4),(11,.lst 73 dx),(1,.lst 97 d2)],[]⟩) (λi=>i<=f) (λi=>f-i) 0 (bw _) ?_ ?_
 ·refine⟨[],rfl,?_⟩
  (cbv;repeat' apply bk);all_goals try first|trivial|rfl|(rw[X.a];rfl)
 intro i U;cbv;refine⟨λh1=>?_,λh1=>?_⟩
 ·have g5:i<s.length:=by obtain rfl:=X.a;simp only[a,SD,fP]at h1;omega
  obtain⟨k1,k2⟩:=Hg X.a p g5;have t:A.idx (bj i) (A.len Q):=by rw[X.a,p];exact cY g5
  have F:A.inr .i64 (A.add (bj i) 1):=by rw[X.a];exact fN g5 (by omega)
  have H:s≠[]:=λe=>by rw[e]at g5;simp at g5
  have aI:=hJ H;obtain⟨j0,j1,j2,j3⟩:=aI.k _ (br g5);have L:=L s (R H).2 H;have B:=λe=>B e s (R H).2 _ (br g5);clear h1;cbv;repeat' (first|apply bk|exactλ(_:FF)=>by kernel_rfl|(intro J;cbv)|apply bB|(refine X.call (FC.lf (F8 E2 aI.P.hc aI.P.oV aI.cf j2 j3 (λ_=>⟨aI.P,j1⟩) ac ae (λ_=>L) k1 k2 λb6 ak=>?_));cbv))
  all_goals try first|exact t|exact F
  all_goals first
   |(have y:A.not b6=true:=by assumption
     have z:b4=true:=by assumption
     rw[Y,ak.trans (B z)]at y;cases y)
   |(refine⟨i+1,by omega,by omega,[],rfl,?_⟩
     (cbv;repeat' apply bk);all_goals try first|trivial|rfl|(rw[X.a];rfl)
     done)
   |trace_state
 ·cbv;repeat' (first|apply bk|exactλ(_:FF)=>by kernel_rfl|(intro J;cbv)|apply bB)
  all_goals try exact an
  all_goals (refine⟨k+1,by omega,by omega,[],rfl,?_⟩;(cbv;repeat' apply bk);all_goals try first|trivial|rfl|(rw[X.a];rfl))
end Go.VC.cc
