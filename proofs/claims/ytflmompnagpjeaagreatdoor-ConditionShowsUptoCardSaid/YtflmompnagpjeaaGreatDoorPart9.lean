/- Part 9 of the common texts. -/
import Derived.Test.YtflmompnagpjeaaGreatDoorPart8
set_option linter.all false
set_option maxRecDepth 100000
set_option maxHeartbeats 16000000
open And renaming intro→bk
open Bool renaming and_eq_true→bn,not_eq_true→Am
open Decidable renaming em→pR
open Eq renaming trans→gv
open Int renaming ofNat→bj,toNat_natCast→fp
open List renaming all_eq_true→dE,any_eq_true→eV,append_assoc→bL,append_nil→cz,eq_of_mem_replicate→iz,ext_getElem→Ak,flatMap_append→ea,flatMap_cons→eJ,flatMap_nil→Aj,getD_eq_getElem?_getD→fc,getElem?_eq_getElem→bu,getElem?_map→cC,getElem_map→jT,getElem_mem→br,getElem_range→Ot,length_append→bp,length_cons→bI,length_filter_le→jo,length_map→bA,length_replicate→sD,length_take→cF,map_append→bS,map_congr_left→eF,map_cons→bF,map_map→ep,mem_append→bE,mem_append_left→cy,mem_append_right→cP,mem_cons→bx,mem_filter→hZ,mem_flatMap→cb,mem_map→bH,mem_range→k9,nil_append→jd,nodup_append→dk,not_mem_nil→gH,range→dF,replicate→fb,replicate_succ→Od,sum_cons→bV,take_append_drop→cV,take_length→bz
open Nat renaming le_refl→bX,le_trans→bM,lt_of_le_of_lt→gS,zero_add→dY,zero_le→bw
open Or renaming inl→bB
namespace Go.VC
open Classical
section
variable {dec:Jm->Mem->Option (Bool×Mem)}{j:Jm}{g:List Jm}
abbrev Pr:=Ty->Ty->Nat->Option (List Jm)
def Sup(pr:Pr)(X a:Jm->Prop):Prop:=∀x,X x->∃r∈[1,2,3,4,5],∃l,pr x.1 x.2 r=some l/\∀y∈l,a y
def Gp(pr:Pr)(j:Jm):Prop:=∃X,Sup pr X X/\X j
def Gp.un{pr:Pr}(h:Gp pr j):∃r∈[1,2,3,4,5],∃l,pr j.1 j.2 r=some l/\∀y∈l,Gp pr y:=by obtain⟨X,h1,J⟩:=h;obtain⟨r,hr,l,hl,a⟩:=h1 j J;exact⟨r,hr,l,hl,λy h=>⟨X,h1,a y h⟩⟩
def It{pr:Pr}(d:∀j g b q,dec j (g,b)=some q->(∀x∈b,¬Gp pr x)->(Gp pr j->q.1=true)/\∀x∈q.2.2,¬Gp pr x):
 ∀(l:List Jm)(g b:List Jm)(q:Bool×Mem),lI dec l (g,b)=some q->(∀x∈b,¬Gp pr x)->((∀y∈l,Gp pr y)->q.1=true)/\∀x∈q.2.2,¬Gp pr x
 |[],g,b,q,h,hb=>by rw[lI]at h;cases h;exact⟨λ_=>rfl,hb⟩
 |j::l,g,b,q,h,hb=>by
  rw[lI]at h;cases c:dec j (g,b)with
  |none=>rw[c]at h;cases h
  |some r=>
   obtain⟨r0,f,b'⟩:=r;obtain⟨h1,J⟩:=d j g b _ c hb;rw[c]at h;cases r0 with
   |false=>cases h;exact⟨λa=>absurd (h1 (a j yS)) yS,J⟩
   |true=>obtain⟨h3,h4⟩:=It d l f b' q h J;exact⟨λa=>h3 λy e=>a y (by simp[e]),h4⟩
def vq{pr:Pr}(i:∀j g b q,dec j (g,b)=some q->(∀x∈b,¬Gp pr x)->(Gp pr j->q.1=true)/\∀x∈q.2.2,¬Gp pr x):
 ∀(rs:List Nat)(b:List Jm)(q:Bool×Mem),gD dec (pr j.1 j.2) j g rs b=some q->(∀x∈b,¬Gp pr x)->(Gp pr j->∃r∈rs,∃l,pr j.1 j.2 r=some l/\∀y∈l,Gp pr y)->(Gp pr j->q.1=true)/\∀x∈q.2.2,¬Gp pr x
 |[],b,q,h,hb,hw=>by
  have m:¬Gp pr j:=λa=>by obtain⟨r,hr,_⟩:=hw a;simp at hr
  rw[gD]at h;cases h
  exact⟨λa=>absurd a m,λx d=>by
   rcases bE.1 d with d|d
   ·exact hb x d
   ·simp at d;subst d;exact m⟩
 |r::rs,b,q,h,hb,hw=>by
  rw[gD]at h;cases e:pr j.1 j.2 r with
  |none=>
   rw[e]at h;refine vq i rs b q h hb λa=>?_;obtain⟨r',c,l,hl,f⟩:=hw a;rcases bx.1 c with rfl|c
   ·rw[e]at hl;cases hl
   ·exact⟨r',c,l,hl,f⟩
  |some l=>
   rw[e]at h;simp only at h;cases k:lI dec l (g++[j],b)with
   |none=>rw[k]at h;cases h
   |some p=>
    obtain⟨n,s,b'⟩:=p;obtain⟨h1,J⟩:=It i l _ b _ k hb;rw[k]at h;cases n with
    |true=>cases h;exact⟨λ_=>rfl,J⟩
    |false=>
     refine vq i rs b' q h J λa=>?_;obtain⟨r',c,o,hl,f⟩:=hw a;rcases bx.1 c with rfl|c
     ·rw[e]at hl;cases hl;exact absurd (h1 f) yS
     ·exact⟨r',c,o,hl,f⟩
def Jd{pr:Pr}:∀(n:Nat)(j:Jm)(g b:List Jm)(q:Bool×Mem),pH pr n j (g,b)=some q->(∀x∈b,¬Gp pr x)->(Gp pr j->q.1=true)/\∀x∈q.2.2,¬Gp pr x
 |0,j,g,b,q,h,hb=>yC h
 |n+1,j,g,b,q,h,hb=>by
  rw[pH]at h;by_cases e:j∈b
  ·rw[if_pos e]at h;cases h;exact⟨λa=>absurd a (hb j e),hb⟩
  rw[if_neg e]at h;by_cases e2:j∈g
  ·rw[if_pos e2]at h;cases h;exact⟨λ_=>rfl,hb⟩
  rw[if_neg e2]at h;exact vq (λj g b q=>Jd n j g b q) _ b q h hb Gp.un
def Sg(pr:Pr)(g a:List Jm):Prop:=(∀x∈g,x∈a)/\∀x∈a,x∈g\/∃r∈[1,2,3,4,5],∃l,pr x.1 x.2 r=some l/\∀y∈l,y∈a
def Sg.trans{pr:Pr}{a b c:List Jm}(h:Sg pr a b)(k:Sg pr b c):Sg pr a c:=⟨λx d=>k.1 x (h.1 x d),λx d=>by
 rcases k.2 x d with d|d
 ·rcases h.2 x d with d|⟨r,hr,l,hl,e⟩
  ·exact .inl d
  ·exact .inr ⟨r,hr,l,hl,λy a=>k.1 y (e y a)⟩
 ·exact .inr d⟩
def Ee{pr:Pr}(e:∀j g b a b',dec j (g,b)=some (true,(a,b'))->Sg pr g a/\j∈a):
 ∀(l:List Jm)(g b a b':List Jm),lI dec l (g,b)=some (true,(a,b'))->Sg pr g a/\∀y∈l,y∈a
 |[],g,b,a,b',h=>by rw[lI]at h;cases h;exact⟨⟨λx h=>h,λx h=>.inl h⟩,yS⟩
 |j::l,g,b,a,b',h=>by
  rw[lI]at h;cases d:dec j (g,b)with
  |none=>rw[d]at h;cases h
  |some r=>
   obtain⟨r0,g1,b1⟩:=r;rw[d]at h;cases r0 with
   |false=>cases h
   |true=>obtain⟨h1,J⟩:=e j g b _ _ d;obtain⟨h3,h4⟩:=Ee e l g1 b1 a b' h;exact⟨h1.trans h3,λy c=>by rcases bx.1 c with rfl|c;exact h3.1 _ J;exact h4 y c⟩
def sM{pr:Pr}(d:∀j g b a b',dec j (g,b)=some (true,(a,b'))->Sg pr g a/\j∈a):
 ∀(rs:List Nat)(b a b':List Jm),(∀r∈rs,r∈[1,2,3,4,5])->gD dec (pr j.1 j.2) j g rs b=some (true,(a,b'))->Sg pr g a/\j∈a
 |[],b,a,b',_,h=>by rw[gD]at h;cases h
 |r::rs,b,a,b',hr,h=>by
  rw[gD]at h;cases e:pr j.1 j.2 r with
  |none=>rw[e]at h;exact sM d rs b a b' (λx c=>hr x (by simp[c])) h
  |some l=>
   rw[e]at h;simp only at h;cases f:lI dec l (g++[j],b)with
   |none=>rw[f]at h;cases h
   |some k=>
    obtain⟨i,g1,b1⟩:=k;rw[f]at h;cases i with
    |false=>exact sM d rs b1 a b' (λx c=>hr x (by simp[c])) h
    |true=>
     cases h;obtain⟨⟨h1,J⟩,h3⟩:=Ee d l _ b _ _ f;refine⟨⟨λx c=>h1 x (by simp[c]),λx c=>?_⟩,h1 j yS⟩;rcases J x c with h4|h4
     ·rcases bE.1 h4 with h4|h4
      ·exact .inl h4
      ·simp at h4;subst h4;exact .inr ⟨r,hr r yS,l,e,h3⟩
     ·exact .inr h4
def FA{pr:Pr}:∀(n:Nat)(j:Jm)(g b a b':List Jm),pH pr n j (g,b)=some (true,(a,b'))->Sg pr g a/\j∈a
 |0,j,g,b,a,b',h=>yC h
 |n+1,j,g,b,a,b',h=>by
  rw[pH]at h;by_cases e:j∈b
  ·rw[if_pos e]at h;cases h
  rw[if_neg e]at h;by_cases e2:j∈g
  ·rw[if_pos e2]at h;cases h;exact⟨⟨λx h=>h,λx h=>.inl h⟩,e2⟩
  rw[if_neg e2]at h;exact sM (λj g b a b'=>FA n j g b a b') _ b a b' (λr h=>h) h
def Sq{env:List IF}{ctx:List Pm}{C:List Ty}(hC:Dw env ctx C){s t:Ty}(hs:s∈C)(b:t∈C):MQ env ctx s t=true↔Gp (lK env ctx) (s,t):=by
 obtain⟨n,m,a⟩:=ue hC hs b;constructor<;>intro e
 ·rw[e]at a;obtain⟨⟨_,J⟩,h3⟩:=FA n _ _ _ _ _ a;refine⟨λx=>x∈m.1,λx c=>?_,h3⟩;rcases J x c with h|h
  ·simp at h
  ·exact h
 ·exact(Jd n _ _ _ _ a yS).1 e
end
def xV{p:Nat->Option (List Jm)}{hb:Jm->Bool}:∀{d:List Nat}{r:Nat}{l:List Jm},qA p hb d=some (r,l)->r∈d/\p r=some l
 |[],r,l,h=>by cases h
 |a::d,r,l,h=>by
  rw[qA]at h;split at h
  ·have:=xV h;exact⟨by simp[this.1],this.2⟩
  ·split at h
   ·have:=xV h;exact⟨by simp[this.1],this.2⟩
   ·cases h;exact⟨by simp,by assumption⟩
def vl{p:Nat->Option (List Jm)}{hb:Jm->Bool}:∀{d:List Nat},(∃r∈d,∃l,p r=some l/\∀y∈l,hb y=true)->∃q,qA p hb d=some q
 |[],⟨r,hr,_⟩=>by simp at hr
 |a::d,⟨r,hr,l,hl,b⟩=>by
  rw[qA];split
  ·rename_i e;rcases bx.1 hr with rfl|hr
   ·rw[hl]at e;cases e
   ·exact vl ⟨r,hr,l,hl,b⟩
  ·rename_i c e;split
   ·rename_i ha;rcases bx.1 hr with rfl|hr
    ·rw[hl]at e;cases e;obtain⟨y,h1,J⟩:=eV.1 ha;rw[b y h1]at J;cases J
    ·exact vl ⟨r,hr,l,hl,b⟩
   ·exact⟨_,rfl⟩
def Ra{env:List IF}{ctx:List Pm}{C:List Ty}(hC:Dw env ctx C){j:Jm}(h1:j.1∈C)(J:j.2∈C):hB env ctx j=true↔Gp (lK env ctx) j:=Sq hC h1 J
def LJ{env:List IF}{ctx:List Pm}{C:List Ty}(hC:Dw env ctx C){j:Jm}(h1:j.1∈C)(J:j.2∈C)(h:hB env ctx j=true):∃q,qA (Ah env ctx j) (hB env ctx) [1,2,3,4,5]=some q:=by obtain⟨r,hr,l,hl,b⟩:=((Ra hC h1 J).1 h).un;refine vl ⟨r,hr,l,hl,λy a=>?_⟩;have:=hC.closed _ h1 _ J r l hl y a;exact(Ra hC this.1 this.2).2 (b y a)
def isP(env:List IF)(ctx:List Pm)(z:rT)(x:Jm):Prop:=∃m,nT env ctx z.2.1 z.2.2 z.1=some m/\x∈m
structure Wd (env:List IF) (ctx:List Pm) (st:Qk):Prop where
 nd:(st.2.map (·.2)).Nodup
 sub:∀y∈st.2,y.2∈st.1
 par:∀pre y post,st.2=pre++y::post->pre≠[]->∃z∈pre,isP env ctx z y.2
theorem Wd.sn{env:List IF}{ctx:List Pm}{sn:List Jm}{out:List rT}{j:Jm}(h:Wd env ctx (sn,out)):Wd env ctx (sn++[j],out):=⟨h.nd,λy a=>cy _ (h.sub y a),h.par⟩
def Wd.push{env:List IF}{ctx:List Pm}{sn:List Jm}{out:List rT}{j:Jm}(h:Wd env ctx (sn,out))(i:j∉sn)(n:Int)(f:out=[]\/∃z∈out,isP env ctx z j):Wd env ctx (sn++[j],out++[(n,j)]):=by
 refine⟨?_,λy d=>?_,λpre y post e g=>?_⟩
 ·rw[bS,dk];refine⟨h.nd,by simp,λa ha b hb=>?_⟩;simp at hb;subst hb;obtain⟨y,d,rfl⟩:=bH.1 ha;exactλe=>i (e▸h.sub y d)
 ·rcases bE.1 d with d|d
  ·exact cy _ (h.sub y d)
  ·simp at d;subst d;simp
 ·rcases List.eq_nil_or_concat post with rfl|⟨c,z,rfl⟩
  ·have e':out++[(n,j)]=pre++[y]:=e;obtain⟨e1,e2⟩:=List.append_inj' e' rfl;simp at e2;subst e2;rcases f with f|f
   ·exact absurd (e1.symm.trans f) g
   ·rw[<- e1];exact f
  ·have e':out++[(n,j)]=(pre++y::c)++[z]:=by simpa using e
   obtain⟨e1,e2⟩:=List.append_inj' e' rfl;exact h.par pre y c e1 g
section
variable {env:List IF}{ns vs:List S}{ts:List Ty}
def pI{α:Type}{p:α->Bool}{f:α->α}(h:∀x,p (f x)=p x)(l:List α):(l.map f).any p=l.any p:=by rw[List.any_map];congr 1;funext x;exact h x
def wh{v:Ty}(a:¬(v.k=9/\0<=gI ns v.n/\gI ns v.n<ts.length)):dV (v.sub ns ts)=dV v:=by rw[jg a];have e1:(v.fl.map (Fe.sub ns ts)).any Fe.b=v.fl.any Fe.b:=pI (λf=>by cases f;rfl) _;unfold dV;simp only[Ty.k,Ty.m,Ty.n,Ty.ar,Ty.fl,bA]at*;rw[e1];cases v;rfl
def xR(t:Ty):dV (uO t)=dV t:=by have e1:(t.fl.map anFe).any Fe.b=t.fl.any Fe.b:=pI (λf=>by cases f;rfl) _;unfold dV uO;simp only[Ty.k,Ty.m,Ty.n,Ty.ar,Ty.fl,bA,sD]at*;rw[e1];cases t;rfl
def RX{t:Ty}(h:(uO t).rZ):t.rZ:=by
 have a:(uO t).ar.length=t.ar.length:=by unfold uO;simp[Ty.ar]
 have ef:(uO t).fl=t.fl.map anFe:=rfl;have b:(uO t).k=t.k:=rfl;refine⟨λhk=>by rw[<- a];exact h.a hk,λhk=>?_,?_,h.k⟩
 ·obtain⟨h1,J⟩:=h.r hk;exact⟨by rw[<- a];exact h1,λf hf=>J (anFe f) (by rw[ef];exact bH.2 ⟨f,hf,rfl⟩)⟩
 ·have:=h.nd;rw[ef,ep]at this;have e2:(Fe.s∘anFe)=Fe.s:=by funext f;cases f;rfl
  rw[e2]at this;exact this
def va{u:Ty}(h:tD u=0):dV u=true:=by
 unfold tD at h;cases hs:dV u with
 |true=>rfl
 |false=>rw[hs]at h;simp at h
def qm{t:Ty}(h:sF env vs t=0):∀u∈t.all,tD u=0:=by
 have h1:=(wb.1 h).1;unfold K0 at h1;split at h1
 ·cases h1
 ·intro u hu;exact nn.1 h1 _ (bH.2 ⟨u,hu,rfl⟩)
structure Cs (t:Ty):Prop where
 ct:Ct t
 sh:∀u∈t.all,dV u=true
def Cs.part{t u:Ty}(h:Cs t)(hu:u∈t.eA):Cs u:=⟨h.ct.part hu,λv a=>h.sh v (jr hu a)⟩
def Cs.zero:Cs Ty.zero:=⟨Ct.zero,λu hu=>by
 have:u=Ty.zero:=by simpa[Ty.zero,Ty.all,Ty.ra,Ty.rb]using hu
 subst this;decide⟩
def Cs.form{t:Ty}(hf:t.fit)(h:dI env vs t=true):Cs t:=by
 unfold dI at h;have h:∀u∈t.all,sF env vs (uO u)=0:=λu hu=>by simpa using dE.1 h u hu
 exact⟨⟨hf.le,hf.me,λu hu=>RX (Ii (qm (h u hu) _ (fK _)))⟩,λu hu=>by rw[<- xR];exact va (qm (h u hu) _ (fK _))⟩
def Cs.sub{y:Ty}(a:∀u∈ts,Cs u)(h:Cs y):Cs (y.sub ns ts):=⟨h.ct.sub (λu hu=>(a u hu).ct),tI (P:=λt=>dV t=true) (λu hu=>(a u hu).sh) (λv b c=>by rw[wh c];exact b) y h.sh⟩
def Cs.gr(d:ml env)(ec:∀i∈env,i.fit){t:Ty}(h:Cs t):Cs (cG env t).1/\Cs (cG env t).2.1:=by
 unfold cG;split
 ·exact⟨Cs.zero,Cs.zero⟩
 ·split
  ·exact⟨Cs.zero,Cs.zero⟩
  ·rename_i h1;split
   ·exact⟨Cs.zero,Cs.zero⟩
   ·obtain⟨i,e,f⟩:=lg (yU h1);obtain⟨a,b⟩:=Ct.ty d ec e f;obtain⟨g,j,_⟩:=qq ((d.ok i e).t _ f);have c:∀u∈t.ar,Cs u:=λu hu=>h.part (kS hu);exact⟨Cs.sub c ⟨a,λu hu=>va (qm g u hu)⟩,Cs.sub c ⟨b,λu hu=>va (qm j u hu)⟩⟩
def tB(h:Ci env=true):(qf env).2=0:=by
 unfold Ci at h;simp only[bn,decide_eq_true_eq]at h;cases pR ((qf env).2=0)with
 |inl e=>exact e
 |inr e=>rw[xE e]at h;exact absurd h.1.1 e
end
end Go.VC
namespace Go.VC.cc
open Go Go.VC Go.Proofs
end Go.VC.cc
namespace Go.VC
def iB(n:S):Ty:=.mk 9 [] n [] []
def mb(m n:S)(ps:List Pm):Ty:=.mk 10 m n (ps.map λp=>iB p.name) []
def yV{α β:Type}{f:α->β}{l:List α}{i:Nat}(h:i<l.length):(l.take (i+1)).map f=(l.take i).map f++[f l[i]]:=by rw[cj h,bS];rfl
structure mn where
 k:Int
 m:S
 n:S
 i:Int
 ps:List Pm
 s:Ty
 t:Ty
def ny(c:mn):List D:=.int c.k:: .str c.m:: .str c.n:: .int c.i::bt dB c.ps::(ca c.s++ca c.t)
def zL(c:mn):ny c=[.int c.k,.str c.m,.str c.n,.int c.i,bt dB c.ps,.int c.s.k,.str c.s.m,.str c.s.n,bt ca c.s.ar,bt fj c.s.fl,.int c.t.k,.str c.t.m,.str c.t.n,bt ca c.t.ar,bt fj c.t.fl]:=by unfold ny;rw[dn,dn];rfl
abbrev xc(h:Int)(c1 c2:S)(b:Int)(g:D)(e:Int)(f c:S)(d a:D)(e0:Int)(e1 e2:S)(e3 e4:D):PV:=.agg [.int .i64 h,.str c1,.str c2,.int .i64 b,.lst 73 g,.int .i64 e,.str f,.str c,.lst 29 d,.lst 57 a,.int .i64 e0,.str e1,.str e2,.lst 29 e3,.lst 57 e4]
def sa(c:mn)(i:Int)(c1 c2:S)(b:Int)(h:D)(f:Int)(g d:S)(e a:D)(e0:Int)(e1 e2:S)(e3 e4:D):Prop:=i=c.k/\c1=c.m/\c2=c.n/\b=c.i/\h=bt dB c.ps/\cr c.s f g d e a/\cr c.t e0 e1 e2 e3 e4
def aab{A:pP}{l:List mn}{d:D}{i:Nat}(ha:A=Std)(a:d=bt ny l)(h:i<l.length):sa l[i] (A.asInt (A.cell d (bj i) 0)) (A.bG (A.cell d (bj i) 1)) (A.bG (A.cell d (bj i) 2)) (A.asInt (A.cell d (bj i) 3)) (A.cell d (bj i) 4)
 (A.asInt (A.cell d (bj i) 5)) (A.bG (A.cell d (bj i) 6)) (A.bG (A.cell d (bj i) 7)) (A.cell d (bj i) 8) (A.cell d (bj i) 9) (A.asInt (A.cell d (bj i) 10)) (A.bG (A.cell d (bj i) 11)) (A.bG (A.cell d (bj i) 12)) (A.cell d (bj i) 13) (A.cell d (bj i) 14):=by
 subst ha a;unfold sa cr;rw[cJ h,cJ h,cJ h,cJ h,cJ h,cJ h,cJ h,cJ h,cJ h,cJ h,cJ h,cJ h,cJ h,cJ h,cJ h,zL];exact⟨rfl,rfl,rfl,rfl,rfl,⟨rfl,rfl,rfl,rfl,rfl⟩,⟨rfl,rfl,rfl,rfl,rfl⟩⟩
def j5(b:Bool)(p:Pm):Pm:=if b then⟨p.name,p.var,Ty.zero⟩else⟨p.name,0,p.bound⟩
def fv(c:mn):List Pm:=c.ps.map λp=>⟨p.name,0,p.bound⟩
def tA(m n:S)(ps:List Pm):Nat->List Pm->List mn
 |_,[]=>[]
 |i,p::l=>if p.var≠2 then⟨2,m,n,i,ps,Ty.zero,Ty.zero⟩::tA m n ps (i+1) l else tA m n ps (i+1) l
def tz{m n:S}{ps:List Pm}:∀{l:List Pm}{i:Nat}{c:mn},c∈tA m n ps i l->c.k=2/\c.m=m/\c.n=n/\c.ps=ps/\c.s=Ty.zero/\c.t=Ty.zero
 |[],i,c,h=>by simp[tA]at h
 |p::l,i,c,h=>by
  rw[tA]at h;split at h
  ·rcases bx.1 h with rfl|h
   ·exact⟨rfl,rfl,rfl,rfl,rfl,rfl⟩
   ·exact tz h
  ·exact tz h
def pq(env:List IF)(m n:S):S×S:=match lR env m n with| .nf=>([],[])| .loop=>([],[])| .th m' n' _=>(m',n')| .val m' n' _=>(m',n')
def Gr(env:List IF)(m n:S)(ps:List Pm)(x:TE):List mn:=
 if pq env m n=(m,n)then [⟨3,m,n,0,ps,mb m n ps,x.upper⟩,⟨4,m,n,0,ps,x.lower,mb m n ps⟩]
 else [⟨5,m,n,0,ps,mb m n ps,mb (pq env m n).1 (pq env m n).2 ps⟩,⟨6,m,n,0,ps,mb (pq env m n).1 (pq env m n).2 ps,mb m n ps⟩]
def qb(env:List IF)(m n:S):List mn:=
 if(dP env m n).2.2=0 then [⟨7,m,n,0,(dP env m n).1.params.map (j5 false),Ty.zero,Ty.zero⟩,⟨8,m,n,0,(dP env m n).1.params.map (j5 false),Ty.zero,(dP env m n).1.ty⟩]
 else if(cp env m n).2.2≠0 then []
 else⟨1,m,n,0,(cp env m n).1.params.map (j5 true),Ty.zero,Ty.zero⟩::(tA m n ((cp env m n).1.params.map (j5 true)) 0 ((cp env m n).1.params.map (j5 true))++Gr env m n ((cp env m n).1.params.map (j5 true)) (cp env m n).1)
structure HS (env:List IF) (de:D):Prop where
 he:de=bt dy env
 dJ:ey env
 ec:∀i∈env,i.fit
 Yp:(env.map IF.wt).sum<=268435456
 Ss:∀i∈env,(cW i).length<=4294967290
 PN:∀t∈env.flatMap cW,Wt t
 I4:(env.flatMap cW).length<=268435456
abbrev sI(L:List (List IF)):List Ty:=L.flatMap λe=>e.flatMap cW
def M4{α β:Type}{f:α->List β}{l:List α}{i:Nat}(h:i<l.length):((l.take i).flatMap f++f l[i]).length<=(l.flatMap f).length:=by
 rw[<- fu h];have:l.flatMap f=(l.take (i+1)).flatMap f++(l.drop (i+1)).flatMap f:=by rw[<- ea,cV]
 rw[this,bp];omega
end Go.VC
namespace Go.VC.cc
open Go Go.VC Go.Proofs
section
variable {K:PV->List Ob->Prop}
def F10{env:List IF}{de:D}(E:HS env de)(h:∀b,(b=true->∃C,FY env (kL env []) C)->K (.bool b) []):FT 10 [] [.lst 97 de] K:=by
 refine FC.enter (G:={tt:=tt,n:=10}) fD mixed ⟨Tryz.func10,by rfl,rfl⟩ rfl rfl rfl ?_;intro A C L X;cbv;refine X.call (F26 E.he E.dJ (by have:=E.Yp;omega) λsz fW=>?_);cbv;repeat' (first|apply bk|exact zf|(intro J;cbv)|apply bB|(refine X.call (F27 E.he E.dJ E.ec E.Ss (ts:=[]) rfl (by unfold kL;simpa using E.PN) (by unfold kL;have:=E.I4;simp only[jd];omega) λb hb=>?_);cbv))
 all_goals first
  |exact h false (λe=>yC e)
  |exact h _ hb
  |trace_state
def Z2:dH:={tt:=tt,n:=50,own:=[9]}
def F11{a b:List IF}{da db:D}(N:HS a da)(M:HS b db){d:D}(hd:d= .list [[da],[db]])
 (h:∀r,(r=true->(∃C,FY a (kL a (sI [a,b])) C)/\∃C,FY b (kL b (sI [a,b])) C)->K (.bool r) []):FT 11 [] [.lst 23 d,.lst 29 (.list [])] K:=by
 refine FC.enter (G:=Z2) fD mixed ⟨Tryz.func11,by rfl,rfl⟩ rfl rfl rfl ?_;intro A C X1 X;have Y:=fg X.a;obtain⟨L,H⟩:∃L,L=[a,b]:=⟨_,rfl⟩;have o:d=bt (λe=>[bt dy e]) L:=by rw[hd,H,N.he,M.he];rfl
 have F:∀e∈L,HS e (bt dy e):=λe he=>by
  rw[H]at he;simp only[bx,gH,or_false]at he;rcases he with rfl|rfl
  ·exact N.he▸N
  ·exact M.he▸M
 have h:∀r,(r=true->∀e∈L,∃C,FY e (kL e (sI L)) C)->K (.bool r) []:=λr hr=>h r λe=>by have:=hr e;rw[H]at this;exact⟨this a yS,this b yS⟩
 have af:L.length=2:=by rw[H];rfl
 have ag:(sI L).length<=536870912:=by have:=N.I4;have:=M.I4;rw[H];simp only[sI,eJ,Aj,cz,bp];omega
 have T:∀t∈sI L,Wt t:=λt s=>by obtain⟨e,he,s⟩:=cb.1 s;exact(F e he).PN t s
 clear H hd N M;have U:A.gr (A.add (A.len (A.lit [])) (A.len (.list []))) 4294967296:=by rw[X.a,show D.list []=bt ca []from rfl];simp only[SD];decide
 have e0:A.app (A.lit []) (.list [])=bt ca []:=yX;obtain⟨l,v,c⟩:=lenOf o;refine p1 ?_;refine lP X (λy=>y.1<=l/\y.2=bt ca (sI (L.take y.1))) (λy=>l-y.1) (0,A.app (A.lit []) (.list [])) ⟨bw _,e0⟩ [0] (λ(y:Nat×D)=>⟨[(6,.int .i64 y.1),(5,.row 29 0),(0,.lst 23 d)],[.row 29 y.2 true]⟩) ?_;rintro⟨i,Q⟩ ⟨V,m⟩;simp only at V m;cbv;constructor<;>intro h1
 ·have h5:i<L.length:=lY X.a c h1;have u:=iX X.a o h5;have O:=jX X.a h5;have E:=F _ (br h5);obtain⟨dc,w⟩:∃dc,dc=A.cell d (bj i) 0:=⟨_,rfl⟩;have g:dc=bt dy L[i]:=by rw[w,X.a,o];exact cJ h5
  have ah:=M4 (f:=λe:List IF=>e.flatMap cW) h5;obtain⟨j,x,p⟩:=lenOf g;have B:A.len (A.cell d (bj i) 0)=bj j:=by rw[<- w,X.a];exact p
  clear h1;refine p1 ?_;refine lP X (λy=>y.1<=j/\y.2=bt ca (sI (L.take i)++(L[i].take y.1).flatMap cW)) (λy=>j-y.1) (0,Q) ⟨bw _,yU m⟩ [0] (λ(y:Nat×D)=>⟨[(7,.int .i64 y.1),(6,.int .i64 i),(5,.row 29 0),(0,.lst 23 d)],[.row 29 y.2 true]⟩) ?_;rintro⟨k,R⟩ ⟨hk,n⟩;simp only at hk n;cbv;refine⟨u,?_⟩;constructor<;>intro h1
  ·have h6:k<L[i].length:=by have h1:A.lt (bj k) (A.len (A.cell d (bj i) 0))=true:=h1;rw[B]at h1;obtain rfl:=X.a;simp only[SD]at h1;omega
   have I:A.idx (bj k) (A.len (A.cell d (bj i) 0)):=by rw[B,X.a];simp only[SD];omega
   have ae:k<4294967296:=by have:=E.dJ.1;omega
   have P:A.inr .i64 (A.add (bj k) 1):=by rw[X.a];simp only[SD];omega
   have k1:=ot X.a g h6;rw[w]at k1;have ai:=M4 (f:=cW) h6;have e1:∀r,r=bt ca (cW L[i][k])->A.app R r=bt ca (sI (L.take i)++(L[i].take (k+1)).flatMap cW):=λr hr=>by rw[X.a,n,hr,fu h6,<-bL];exact cD
   have W:∀r,r=bt ca (cW L[i][k])->A.gr (A.add (A.len R) (A.len r)) 4294967296:=λr hr=>by rw[X.a,n,hr];simp only[SD,bp,sI]at *;omega
   clear h1;cbv;repeat' (first|apply bk|exact zf|(intro J;cbv)|apply bB|(refine X.call (F41 k1 (E.ec _ (br h6)).ok (E.Ss _ (br h6)) λr hr=>?_);cbv))
   all_goals try first|exact u|exact I|exact P|exact W _ yA
   exact⟨(k+1,_),⟨yP,e1 _ hr⟩,yP,[0],rfl,yc⟩
  ·have h6:k=j:=by have h1:A.lt (bj k) (A.len (A.cell d (bj i) 0))=false:=h1;rw[B]at h1;obtain rfl:=X.a;simp only[SD]at h1;omega
   rw[h6,x,bz]at n;refine p1 ?_;exact⟨(i+1,R),⟨yP,n.trans (congrArg (bt ca) (fu (f:=λe:List IF=>e.flatMap cW) h5).symm)⟩,yP,[0],rfl,yc⟩
 have h5:i=l:=gY X.a c h1;have m:Q=bt ca (sI L):=by rw[m,h5,v,bz]
 clear h1 h5 V e0 U;cbv;refine lP X (λi=>i<=l/\∀e∈L.take i,∃C,FY e (kL e (sI L)) C) (λi=>l-i) 0 ⟨bw _,yS⟩ [0] (λ(i:Nat)=>⟨[(8,.int .i64 i),(5,.row 29 0),(0,.lst 23 d)],[.row 29 Q true]⟩) ?_;rintro i ⟨V,S⟩;cbv;constructor<;>intro h1
 ·have h5:i<L.length:=lY X.a c h1;have u:=iX X.a o h5;have O:=jX X.a h5;have E:=F _ (br h5);have g:A.cell d (bj i) 0=bt dy L[i]:=by rw[X.a,o];exact cJ h5
  clear h1;cbv;refine⟨u,?_⟩;refine X.call (F27 (dts:=Q) g E.dJ E.ec E.Ss m (λt s=>?_) ?_ λr hr=>?_)
  ·unfold kL at s;rcases bE.1 s with s|s
   ·exact T t s
   ·exact E.PN t s
  ·unfold kL;rw[bp];have:=E.I4;omega
  cases r with
  |false=>
   have z:A.not false=true:=by rw[Y];rfl
   have q:=h false (λe=>yC e);cbv;repeat' (first|apply bk|exact zf|(intro J;first|exact yB z J|cbv)|apply bB)
   all_goals exact q
  |true=>
   have z:A.not true=false:=by rw[Y];rfl
   cbv;repeat' (first|apply bk|exact zf|(intro J;first|exact yB z J|cbv)|apply bB)
   all_goals try exact O
   refine⟨i+1,⟨yO,λe he=>?_⟩,yO,[0],rfl,?_⟩
   ·rw[cj h5]at he;rcases bE.1 he with he|he
    ·exact S e he
    ·simp at he;subst he;exact hr rfl
   exact yc
 ·have h5:i=l:=gY X.a c h1;rw[h5,v,bz]at S;have q:=h true λ_=>S;cbv;exact q
end
section
variable {K:PV->List Ob->Prop}{ps:List Pm}{d:D}
def Y5:dH:={tt:=tt,n:=23,own:=[3]}
def F48{c:mn}{x:Int}{c1 c2:S}{t:Int}{b:D}{u:Int}{v o:S}{m n:D}{e0:Int}{e1 e2:S}{e3 e4:D}(hc:sa c x c1 c2 t b u v o m n e0 e1 e2 e3 e4)(hl:c.ps.length<=1048576)
 (h:∀d,d=bt dB (fv c)->K (.lst 73 d) []):FT 48 [] [xc x c1 c2 t b u v o m n e0 e1 e2 e3 e4] K:=by
 have l:=hc.2.2.2.2.1;refine en Y5 Tryz.func48 λA C L X=>?_;obtain⟨g,j,a⟩:=lenOf l;cbv;refine lP X (λy=>y.1<=g/\y.2=bt dB ((c.ps.take y.1).map λp=>⟨p.name,0,p.bound⟩)) (λy=>g-y.1) (0,.list []) ⟨bw _,rfl⟩ [0,1] (λ(y:Nat×D)=>⟨[(9,.int .i64 y.1),(8,.int .i64 (A.len b)),(7,.lst 73 b),(3,.row 73 1),(1,.box 0 0)],[.box [.int .i64 x,.str c1,.str c2,.int .i64 t,.lst 73 b,.int .i64 u,.str v,.str o,.lst 29 m,.lst 57 n,.int .i64 e0,.str e1,.str e2,.lst 29 e3,.lst 57 e4],.row 73 y.2 true]⟩) ?_;rintro⟨i,r⟩ ⟨M,hr⟩;simp only at M hr;cbv;constructor<;>intro h1
 ·have h5:i<c.ps.length:=lY X.a a h1;obtain⟨E,_,z,G,B,H,F⟩:=im X.a l h5;have w:=iX X.a l h5;have s:=jX X.a h5;have hB:∀row:List D,A.gr (A.add (A.len r) (A.len (A.lit [row]))) 4294967296:=λrow=>by rw[X.a,hr];simp only[SD,bA,cF];omega
  have I:A.app r (A.lit [[.str (A.bG (A.cell b (bj i) 0)),.int 0,.int (A.asInt (A.cell b (bj i) 2)),.str (A.bG (A.cell b (bj i) 3)),.str (A.bG (A.cell b (bj i) 4)),A.cell b (bj i) 5,A.cell b (bj i) 6]])=bt dB ((c.ps.take (i+1)).map λp=>⟨p.name,0,p.bound⟩):=by
   have e:A.app r (A.lit [dB ⟨c.ps[i].name,0,c.ps[i].bound⟩])=bt dB ((c.ps.take (i+1)).map λp=>⟨p.name,0,p.bound⟩):=by rw[yV h5,X.a,hr];exact cD (f:=dB) (k:=[⟨c.ps[i].name,0,c.ps[i].bound⟩])
   rw[E,z,G,B,H,F];exact gv (by rw[<- o5 ⟨c.ps[i].name,0,c.ps[i].bound⟩]) e
  clear h1 E z G B H F;cbv;repeat' (first|apply bk|exact zf|(intro J;cbv)|apply bB)
  all_goals try first|exact w|exact s|exact hB _
  exact⟨(i+1,_),⟨yP,I⟩,yP,[0,1],rfl,yc⟩
 ·have h5:i=g:=gY X.a a h1;rw[h5,j,bz]at hr;have q:=h r hr;cbv;exact q
def YM:dH:={tt:=tt,n:=33,own:=[5]}
def F83(n:d=bt dB ps)(hl:ps.length<=1048576){b:Bool}
 (h:∀d,d=bt dB (ps.map (j5 b))->K (.lst 73 d) []):FT 83 [] [.lst 73 d,.bl b] K:=by
 refine en YM Tryz.func83 λA C L X=>?_;have Y:=fg X.a;obtain⟨c,l,a⟩:=lenOf n;cbv;refine lP X (λy=>y.1<=c/\y.2=bt dB ((ps.take y.1).map (j5 b))) (λy=>c-y.1) (0,.list []) ⟨bw _,rfl⟩ [0] (λ(y:Nat×D)=>⟨[(11,.int .i64 y.1),(10,.int .i64 (A.len d)),(9,.lst 73 d),(5,.row 73 0),(1,.bl b)],[.row 73 y.2 true]⟩) ?_;rintro⟨i,r⟩ ⟨B,hr⟩;simp only at B hr;cbv;constructor<;>intro h1
 ·have h5:i<ps.length:=lY X.a a h1;obtain⟨m,x,o,s,t,w,v⟩:=im X.a n h5;have j:=iX X.a n h5;have g:=jX X.a h5;have hB:∀row:List D,A.gr (A.add (A.len r) (A.len (A.lit [row]))) 4294967296:=λrow=>by rw[X.a,hr];simp only[SD,bA,cF];omega
  have e:∀p:Pm,j5 b ps[i]=p->A.app r (A.lit [dB p])=bt dB ((ps.take (i+1)).map (j5 b)):=λp e=>by rw[yV h5,e,X.a,hr];exact cD (f:=dB) (k:=[p])
  cases b with
  |false=>
   have z:A.not false=true:=by rw[Y];rfl
   have u:A.app r (A.lit [[.str (A.bG (A.cell d (bj i) 0)),.int 0,.int (A.asInt (A.cell d (bj i) 2)),.str (A.bG (A.cell d (bj i) 3)),.str (A.bG (A.cell d (bj i) 4)),A.cell d (bj i) 5,A.cell d (bj i) 6]])=bt dB ((ps.take (i+1)).map (j5 false)):=by rw[m,o,s,t,w,v];exact gv (by rw[<- o5 ⟨ps[i].name,0,ps[i].bound⟩]) (e ⟨ps[i].name,0,ps[i].bound⟩ rfl)
   clear h1 m o s t w v x e;cbv;repeat' (first|apply bk|exact zf|(intro J;first|exact yB z J|cbv)|apply bB)
   all_goals try first|exact j|exact g|exact hB _
   exact⟨(i+1,_),⟨yP,u⟩,yP,[0],rfl,yc⟩
  |true=>
   have z:A.not true=false:=by rw[Y];rfl
   have u:A.app r (A.lit [[.str (A.bG (A.cell d (bj i) 0)),.int (A.asInt (A.cell d (bj i) 1)),.int 0,.str [],.str [],.list [],.list []]])=bt dB ((ps.take (i+1)).map (j5 true)):=by rw[m,x];exact gv (by rw[o5 ⟨ps[i].name,ps[i].var,Ty.zero⟩];rfl) (e ⟨ps[i].name,ps[i].var,Ty.zero⟩ rfl)
   clear h1 m o s t w v x e;cbv;repeat' (first|apply bk|exact zf|(intro J;first|exact yB z J|cbv)|apply bB)
   all_goals try first|exact j|exact g|exact hB _
   exact⟨(i+1,_),⟨yP,u⟩,yP,[0],rfl,yc⟩
 ·have h5:i=c:=gY X.a a h1;rw[h5,l,bz]at hr;have q:=h r hr;cbv;exact q
def YL:dH:={tt:=tt,n:=29,own:=[12]}
def F85{m n:S}(g:d=bt dB ps)(hl:ps.length<=1048576)
 (h:∀e0 e1 e2 e3 e4,cr (mb m n ps) e0 e1 e2 e3 e4->K (dQ e0 e1 e2 e3 e4) []):FT 85 [] [.str m,.str n,.lst 73 d] K:=by
 refine en YL Tryz.func85 λA C L X=>?_;obtain⟨b,c,a⟩:=lenOf g;cbv;refine lP X (λy=>y.1<=b/\y.2=bt ca ((ps.take y.1).map λp=>iB p.name)) (λy=>b-y.1) (0,.list []) ⟨bw _,rfl⟩ [0,1,2,3] (λ(y:Nat×D)=>⟨[(15,.int .i64 y.1),(14,.int .i64 (A.len d)),(13,.lst 73 d),(7,.box 3 0),(6,.box 0 0)],[.box [.int .i64 0,.str [],.str [],.lst 29 (.list []),.lst 57 (.list [])],.row 29 y.2 true,.row 57 (.list []) true,.box [.int .i64 10,.str m,.str n,.row 29 1,.row 57 2]]⟩) ?_;rintro⟨i,r⟩ ⟨t,hr⟩;simp only at t hr;cbv;constructor<;>intro h1
 ·have h5:i<ps.length:=lY X.a a h1;have o:=(im X.a g h5).1;have l:=iX X.a g h5;have j:=jX X.a h5;have hB:∀row:List D,A.gr (A.add (A.len r) (A.len (A.lit [row]))) 4294967296:=λrow=>by rw[X.a,hr];simp only[SD,bA,cF];omega
  have s:A.app r (A.lit [[.int 9,.str [],.str (A.bG (A.cell d (bj i) 0)),.list [],.list []]])=bt ca ((ps.take (i+1)).map λp=>iB p.name):=by
   have e:A.app r (A.lit [ca (iB ps[i].name)])=bt ca ((ps.take (i+1)).map λp=>iB p.name):=by rw[yV h5,X.a,hr];exact cD (f:=ca) (k:=[iB ps[i].name])
   rw[o];exact gv (by rw[dn (iB ps[i].name)];rfl) e
  clear h1 o;cbv;repeat' (first|apply bk|exact zf|(intro J;cbv)|apply bB)
  all_goals try first|exact l|exact j|exact hB _
  exact⟨(i+1,_),⟨yP,s⟩,yP,[0,1,2,3],rfl,yc⟩
 ·have h5:i=b:=gY X.a a h1;rw[h5,c,bz]at hr;have q:=h 10 m n r (.list []) ⟨rfl,rfl,rfl,hr,rfl⟩;cbv;exact q
end
section
variable {K:PV->List Ob->Prop}{m:List (S×Bool)}{d c1 c2 a b:D}{x:IF}{c:S}
def YP:dH:={tt:=tt,n:=5,n0:=2}
def YQ:dH:={tt:=tt,n:=46,live:=[78],n0:=2}
def Y7:dH:={tt:=tt,n:=11,live:=[77,79,80]}
def F78{s:S}(e:d=bt cM m)
 (h:∀r,r=bt cM (lA m s)->K (.tup []) [.box [.mp 1],.map .str 4 r]):
 FT 78 [.box [.mp 1],.map .str 4 d] [.str s,.box 0 0] K:=by
 refine el YP Tryz.func78 λA C L X=>?_;have q:=h (A.lM d (.str s) [.bool true]) (by rw[X.a,e,pa]);cbv;exact q
def F77(F:d=bt cM m)(M:lQ x c c1 c2 a b)(N:x.types.length<4294967296)(G:x.values.length<4294967296)(I:x.aliases.length<4294967296)
 (h:∀r,r=bt cM (iv m (iq x))->K (.tup []) [.box [.mp 1],.map .str 4 r]):
 FT 77 [.box [.mp 1],.map .str 4 d] [qN c c1 c2 a b,.cu 78 [.box 0 0]] K:=by
 obtain⟨x0,u,w,y,H⟩:=M;refine el YQ Tryz.func77 λA C L X=>?_;obtain⟨p,s,f⟩:=lenOf u;obtain⟨k,t,g⟩:=lenOf w;obtain⟨l,v,e⟩:=lenOf y;cbv;refine lp X (λi=>i.1<=p/\i.2=bt cM (iv m ((x.types.take i.1).map (·.name)))) (λi=>p-i.1) (0,d) ⟨bw _,by simpa[iv]using F⟩ (λ(i:Nat×D)=>⟨[(13,.int .i64 i.1),(12,.int .i64 (A.len c1)),(11,.lst 136 c1),(1,.cu 78 [.box 0 0]),(2,.box 2 0)],[.box [.mp 1],.map .str 4 i.2,.box [.str c,.lst 136 c1,.lst 91 c2,.lst 210 a,.lst 213 b]]⟩) ?_;rintro⟨i,r⟩ ⟨q,hr⟩;simp only at q hr;cbv;constructor<;>intro h1
 ·have h5:i<x.types.length:=lY X.a f h1;have z:=(RO X.a u h5).1;have o:=iX X.a u h5;have n:=jX X.a h5;cbv;refine⟨o,?_⟩;refine X.call (F78 hr λr' j=>?_);cbv;refine .inl ⟨n,λ_=>?_⟩;refine⟨(i+1,r'),⟨yP,?_⟩,yP,?_⟩
  ·simp only;rw[j,z,map_take h5,pK]
  ·exact yc
 have h5:i=p:=gY X.a f h1;subst h5;rw[s,bz]at hr;clear F;clear h1 q;generalize B:iv m (x.types.map (·.name))=m1 at hr;cbv;refine lp X (λi=>i.1<=k/\i.2=bt cM (iv m1 ((x.values.take i.1).map (·.name)))) (λi=>k-i.1) (0,r) ⟨bw _,by simpa[iv]using hr⟩ (λ(i:Nat×D)=>⟨[(25,.int .i64 i.1),(24,.int .i64 (A.len c2)),(23,.lst 91 c2),(1,.cu 78 [.box 0 0]),(2,.box 2 0)],[.box [.mp 1],.map .str 4 i.2,.box [.str c,.lst 136 c1,.lst 91 c2,.lst 210 a,.lst 213 b]]⟩) ?_;clear hr;rintro⟨i,r⟩ ⟨q,hr⟩;simp only at q hr;cbv;constructor<;>intro h1
 ·have h5:i<x.values.length:=lY X.a g h1;have z:=(RF X.a w h5).1;have o:=iX X.a w h5;have n:=jX X.a h5;cbv;refine⟨o,?_⟩;refine X.call (F78 hr λr' j=>?_);cbv;refine .inl ⟨n,λ_=>?_⟩;refine⟨(i+1,r'),⟨yP,?_⟩,yP,?_⟩
  ·simp only;rw[j,z,map_take h5,pK]
  ·exact yc
 have h5:i=k:=gY X.a g h1;subst h5;rw[t,bz]at hr;clear h1 q;generalize E:iv m1 (x.values.map (·.name))=m2 at hr;cbv;refine lp X (λi=>i.1<=l/\i.2=bt cM (iv m2 ((x.aliases.take i.1).map (·.name)))) (λi=>l-i.1) (0,r) ⟨bw _,by simpa[iv]using hr⟩ (λ(i:Nat×D)=>⟨[(37,.int .i64 i.1),(36,.int .i64 (A.len a)),(35,.lst 210 a),(1,.cu 78 [.box 0 0]),(2,.box 2 0)],[.box [.mp 1],.map .str 4 i.2,.box [.str c,.lst 136 c1,.lst 91 c2,.lst 210 a,.lst 213 b]]⟩) ?_;clear hr;rintro⟨i,r⟩ ⟨q,hr⟩;simp only at q hr;cbv;constructor<;>intro h1
 ·have h5:i<x.aliases.length:=lY X.a e h1;have z:=(SU X.a y h5).1;have o:=iX X.a y h5;have n:=jX X.a h5;cbv;refine⟨o,?_⟩;refine X.call (F78 hr λr' j=>?_);cbv;refine .inl ⟨n,λ_=>?_⟩;refine⟨(i+1,r'),⟨yP,?_⟩,yP,?_⟩
  ·simp only;rw[j,z,map_take h5,pK]
  ·exact yc
 have h5:i=l:=gY X.a e h1;subst h5;rw[v,bz]at hr;clear h1 q;cbv;refine h r ?_;rw[hr,<-E,<-B,iq,B1,B1]
def F44(i:lQ x c c1 c2 a b)(dJ:x.ok)(g:(iq x).length<4294967296)
 (h:∀r,r=bt cT (pU (iq x))->K (.lst 9 r) []):
 FT 44 [] [qN c c1 c2 a b] K:=by
 have nt:=dJ.nt;have nv:=dJ.nv;have na:=dJ.na;refine en Y7 Tryz.func44 λA C L X=>?_;cbv;refine X.call (F77 (m:=[]) rfl i yO yO yO λr hr=>?_);cbv;refine X.call (F80 ?_);cbv;refine X.call (F79 hr ?_ ?_ λl r' e hs f=>?_)
 ·have:=KG (l:=iq x) (m:=[]);simp at this;omega
 ·exact wQ yS
 cbv;refine h r' (by rw[e,LC hs (m:=iq x) λs=>by rw[f,Aa];simp])
end
end Go.VC.cc
namespace Go.VC
open Classical
def Cy{p:Nat->Option (List Jm)}{hb:Jm->Bool}:∀{d:List Nat}{r:Nat}{l:List Jm},qA p hb d=some (r,l)->∀y∈l,hb y=true
 |[],r,l,h=>yC h
 |a::d,r,l,h=>by
  rw[qA]at h;split at h
  ·exact Cy h
  ·split at h
   ·exact Cy h
   ·rename_i ha;cases h;intro y b;cases e:hb y with
    |true=>rfl
    |false=>exact absurd (eV.2 ⟨y,b,by rw[e];rfl⟩) ha
structure Dn (env:List IF) (ctx:List Pm) (P:List Jm) (st:Qk):Prop where
 pr:∀z∈st.2,∃m,nT env ctx z.2.1 z.2.2 z.1=some m/\∀x∈m,x∈st.2.map (·.2)\/x∈P
 sn:∀x∈st.1,hB env ctx x=true->x∈st.2.map (·.2)
 sub:∀z∈st.2,z.2∈st.1
def Oy{env:List IF}{ctx:List Pm}{C:List Ty}(hC:Dw env ctx C):∀n j st P,j.1∈C/\j.2∈C->VI C st->jL C st.1<n->hB env ctx j=true->Dn env ctx (j::P) st->Dn env ctx P (mN (Ah env ctx) (hB env ctx) n j st)/\j∈(mN (Ah env ctx) (hB env ctx) n j st).2.map (·.2):=by
 have d:∀j:Jm,j.1∈C->j.2∈C->∀r l,Ah env ctx j r=some l->∀x∈l,x.1∈C/\x.2∈C:=λj h1 J r l e x c=>hC.closed j.1 h1 j.2 J r l e x c;intro n;induction n with
 |zero=>intro j st P _ _ h;omega
 |succ n D=>
  intro j ⟨sn,out⟩ P f o hf w i;rw[mN];split
  ·rename_i hs;have k:=i.sn j hs w;refine⟨⟨λz hz=>?_,i.sn,i.sub⟩,k⟩;obtain⟨m,h1,J⟩:=i.pr z hz;refine⟨m,h1,λx c=>?_⟩;rcases J x c with h|h
   ·exact .inl h
   ·rcases bx.1 h with rfl|h
    ·exact .inl k
    ·exact .inr h
  ·rename_i A;obtain⟨⟨r,l⟩,q⟩:=LJ hC f.1 f.2 w;rw[q];obtain⟨hr,hl⟩:=xV q;have p:=Cy q;have u:=d j f.1 f.2 r l hl
   have hl:nT env ctx j.1 j.2 (r:Int)=some l:=by
    unfold nT;have:1<=r/\r<=5:=by simp at hr;omega
    rw[if_pos yO,fp];exact hl
   have B:=zi (C:=C) (g:=sn) (j:=j) f.1 f.2 A
   have key:∀(l:List Jm)(st:Qk),(∀x∈l,(x.1∈C/\x.2∈C)/\hB env ctx x=true)->VI C st->jL C st.1<n->Dn env ctx (l++P) st->j∈st.2.map (·.2)->Dn env ctx P (l.foldl (λst x=>mN (Ah env ctx) (hB env ctx) n x st) st)/\j∈(l.foldl (λst x=>mN (Ah env ctx) (hB env ctx) n x st) st).2.map (·.2):=by
    intro l;induction l with
    |nil=>intro st _ _ _ h k;exact⟨h,k⟩
    |cons x l v=>
     intro st c o hf h k;obtain⟨h1,a,b,e⟩:=uW (C:=C) (hb:=hB env ctx) d n x st (c x yS).1 o;refine v _ (λy s=>c y (by simp[s])) h1 ?_ (D x st _ (c x yS).1 o hf (c x yS).2 h).1 ?_
     ·show jL C (mN (Ah env ctx) (hB env ctx) n x st).1<n;rw[e];exact gS (zj λy s=>cy _ s) hf
     ·show j∈(mN (Ah env ctx) (hB env ctx) n x st).2.map (·.2);rw[e,bS];exact cy _ k
   refine key l _ (λx c=>⟨u x c,p x c⟩) (o.step f A _) (by simp only at hf ⊢;omega) ⟨λz hz=>?_,λx c t=>?_,λz hz=>?_⟩ yS
   ·rcases bE.1 hz with hz|hz
    ·obtain⟨m,h1,J⟩:=i.pr z hz;refine⟨m,h1,λx c=>?_⟩;rcases J x c with h|h
     ·exact .inl (by rw[bS];exact cy _ h)
     ·rcases bx.1 h with rfl|h
      ·exact .inl yS
      ·exact .inr (by simp[h])
    ·simp at hz;subst hz;exact⟨l,hl,λx c=>.inr (by simp[c])⟩
   ·rcases bE.1 c with c|c
    ·rw[bS];exact cy _ (i.sn x c t)
    ·simp at c;subst c;simp
   ·rcases bE.1 hz with hz|hz
    ·exact cy _ (i.sub z hz)
    ·simp at hz;subst hz;simp
def BE{env:List IF}{ctx:List Pm}{C:List Ty}(hC:Dw env ctx C){j:Jm}(h1:j.1∈C)(J:j.2∈C)(h:hB env ctx j=true):
 j∈(s4 env ctx j).map (·.2)/\(∀z∈s4 env ctx j,∃m,nT env ctx z.2.1 z.2.2 z.1=some m/\∀x∈m,x∈(s4 env ctx j).map (·.2))/\(∀y∈s4 env ctx j,y.2.1∈C/\y.2.2∈C)/\(s4 env ctx j).length<=20000:=by
 have f:VI C ([],[]):=⟨yS,yS,bX _⟩;have i:Dn env ctx [j] ([],[]):=⟨yS,yS,yS⟩;obtain⟨a,b⟩:=Oy hC 20000 j ([],[]) [] ⟨h1,J⟩ f (cc.Bw hC.len) h i;have g:∀j:Jm,j.1∈C->j.2∈C->∀r l,Ah env ctx j r=some l->∀x∈l,x.1∈C/\x.2∈C:=λj h1 J r l e x k=>hC.closed j.1 h1 j.2 J r l e x k;have n:=(uW (C:=C) (hb:=hB env ctx) g 20000 j ([],[]) ⟨h1,J⟩ f).1;refine⟨b,λz hz=>?_,λy o=>n.mem _ (a.sub y o),bM (n.TR hC.len).2 yD⟩;obtain⟨m,c,d⟩:=a.pr z hz;exact⟨m,c,λx k=>(d x k).resolve_right yS⟩
end Go.VC
namespace Go.VC
section
variable {env:List IF}{vs ns:List S}{t u:Ty}{ts:List Ty}{n:S}
def Lk(t:Ty):tD (uO t)=tD t:=by
 have e1:((uO t).fl).any (λf=> !kn f.s)=t.fl.any (λf=> !kn f.s):=pI (f:=anFe) (λf=>by cases f;rfl) _;have e2:(uO t).fl.map Fe.s=t.fl.map Fe.s:=by show (t.fl.map anFe).map Fe.s=_;rw[ep];exact eF λf _=>by cases f;rfl
 have e3:(uO t).fl.length=t.fl.length:=bA _;have e4:(uO t).ar.length=t.ar.length:=sD;unfold tD;rw[xR,e1,e2,e3,e4];rfl
def EB(t:Ty):ji env vs (uO t)=ji env vs t:=by have e4:(uO t).ar.length=t.ar.length:=sD;unfold ji;rw[e4];rfl
def NM(h:u∈(uO t).all):u=uO t\/u=Ty.zero:=by
 rw[all_eq]at h;rcases bx.1 h with h|h
 ·exact .inl h
 ·obtain⟨v,a,hu⟩:=cb.1 h;rw[uE]at a;rw[iz a]at hu;exact .inr (by simpa[Ty.zero,Ty.all,Ty.ra,Ty.rb]using hu)
def gy:dI env vs t=true↔∀u∈t.all,tD u=0/\ji env vs u=0:=by
 unfold dI;rw[dE];refine forall_congr' λu=>forall_congr' λ_=>?_;rw[decide_eq_true_iff,wb];constructor
 ·intro ⟨h1,J⟩;refine⟨?_,by rw[<- EB];exact ng J _ (fK _)⟩;rw[<- Lk];exact qm (wb.2 ⟨h1,J⟩) _ (fK _)
 ·intro ⟨h1,J⟩;have hz:tD Ty.zero=0:=yD
  have hl:u.eA.length<=40:=by
   have:u.eA.length=u.ar.length+u.fl.length:=by simp[Ty.eA]
   unfold tD at h1;by_cases e:dV u=true
   ·rw[e]at h1;by_cases e2:32<u.fl.length\/8<u.ar.length
    ·simp[e2]at h1
    ·omega
   ·rw[Am]at e;rw[e]at h1;simp at h1
  have hs:(uO u).size=1+u.eA.length:=by
   have e:∀n,((fb n Ty.zero).map Ty.size).sum=n:=λn=>by
    induction n with
    |zero=>rfl
    |succ n b=>rw[Od,bF,bV,b];show 1+n=_;omega
   rw[size_eq,uE,e]
  have f:(uO u).xa<=2:=by
   rw[HA,uE];have:nL ((fb u.eA.length Ty.zero).map Ty.xa)<=1:=IS λx d=>by obtain⟨y,c,rfl⟩:=bH.1 d;rw[iz c];decide
   omega
  refine⟨?_,tY λv a=>?_⟩
  ·unfold K0;rw[if_neg yO];refine nn.2 λe he=>?_;obtain⟨v,a,rfl⟩:=bH.1 he;rcases NM a with rfl|rfl
   ·rw[Lk];exact h1
   ·exact hz
  ·rcases NM a with rfl|rfl
   ·rw[EB];exact J
   ·rfl
def uk(h:sF env vs t=0):dI env vs t=true:=gy.2 λu hu=>⟨qm h u hu,ng (wb.1 h).2 u hu⟩
def zw(h:dI env vs t=true)(hu:u∈t.eA):dI env vs u=true:=gy.2 λv a=>gy.1 h v (jr hu a)
def zx{c:List S}(hs:∀x∈vs,x∈c)(h:dI env vs t=true):dI env c t=true:=gy.2 λv e=>by
 obtain⟨a,b⟩:=gy.1 h v e;refine⟨a,?_⟩;unfold ji at b ⊢;by_cases d:v.k=9
 ·rw[if_pos d]at b ⊢;by_cases hc:vs.contains v.n=true
  ·rw[if_pos (by simpa using hs _ (yU hc))]
  ·rw[if_neg hc]at b;cases b
 ·rw[if_neg d]at b ⊢;exact b
def OH{v:Ty}(a:¬(v.k=9/\0<=gI ns v.n/\gI ns v.n<ts.length)):tD (v.sub ns ts)=tD v:=by
 have h0:=wh a;cases v with
 |mk k m n ar fl=>
  rw[jg a]at h0 ⊢;have e1:(fl.map (Fe.sub ns ts)).any (λf=> !kn f.s)=fl.any (λf=> !kn f.s):=pI (λf=>by cases f;rfl) _;have e2:(fl.map (Fe.sub ns ts)).map Fe.s=fl.map Fe.s:=by rw[ep];exact eF λf _=>by cases f;rfl
  unfold tD;rw[h0];simp only[Ty.k,Ty.m,Ty.n,Ty.ar,Ty.fl,bA,e1,e2];rfl
def BD(hl:ns.length=ts.length)(b:∀u∈ts,dI env vs u=true)(h:dI env ns t=true):dI env vs (t.sub ns ts)=true:=by
 refine gy.2 λv a=>⟨?_,?_⟩
 ·exact tI (P:=λv=>tD v=0) (Q:=λv=>tD v=0) (λu hu v a=>(gy.1 (b u hu) v a).1) (λv a c=>by rw[OH c];exact a) t (λv a=>(gy.1 h v a).1) v a
 ·exact ng (JD hl (λu hu=>tY λv a=>(gy.1 (b u hu) v a).2) (tY λv a=>(gy.1 h v a).2)) v a
def Ks(b:ml env)(h:dI env vs t=true)(e:(cG env t).2.2=0):dI env vs (cG env t).1=true/\dI env vs (cG env t).2.1=true:=by
 unfold cG at e ⊢;split at e
 ·cases e
 ·rename_i hk;rw[if_neg hk];split at e
  ·rename_i h1;exact absurd e h1
  ·rename_i h1;rw[if_neg h1];split at e
   ·cases e
   ·rename_i J;rw[if_neg J];obtain⟨i,f,g⟩:=lg (yU h1);obtain⟨c,d,_⟩:=qq ((b.ok i f).t _ g);have a:∀u∈t.ar,dI env vs u=true:=λu hu=>zw h (kS hu);have hl:((cp env t.m t.n).1.params.map (·.name)).length=t.ar.length:=by rw[bA];omega
    exact⟨BD hl a (uk c),BD hl a (uk d)⟩
def Hk:dI env vs Ty.zero=true:=gy.2 λu hu=>by
 have:u=Ty.zero:=by simpa[Ty.zero,Ty.all,Ty.ra,Ty.rb]using hu
 subst this;exact⟨yD,rfl⟩
def Ce(h:u∈(iB n).all):u=iB n:=by simpa[iB,Ty.all,Ty.ra,Ty.rb]using h
def Kr(h:n∈vs)(a:Cf n=true):dI env vs (iB n)=true:=gy.2 λu hu=>by
 obtain rfl:=Ce hu;refine⟨?_,?_⟩
 ·have h1:dV (iB n)=true:=by simp[dV,iB,Ty.k,Ty.m,Ty.ar,Ty.fl]
  unfold tD;rw[h1];simp[iB,Ty.k,Ty.n,Ty.ar,Ty.fl,a,wZ]
 ·unfold ji;have b:(iB n).k=9:=rfl;rw[if_pos b,if_pos (by simpa[iB,Ty.n]using h)]
def Co:∀t:Ty,(∀u∈t.all,dV u=true)->t.sub ns (ns.map iB)=t:=by
 refine Ty.fV λt d=>?_;intro h;by_cases a:t.k=9/\0<=gI ns t.n/\gI ns t.n<(ns.map iB).length
 ·obtain⟨g,h1,J⟩:=a;have hs:=h t (fK t);rcases nj (λx=>x==t.n) ns with⟨e,_⟩|⟨i,j,e,b,_⟩
  ·unfold gI at h1;rw[e]at h1;omega
  ·have c:ns[i]=t.n:=yU b;clear d h b;cases t with
   |mk k m n ar fl=>
    simp only[Ty.k,Ty.n]at g h1 J c;subst g;have e:gI ns n=(i:Int):=e;rw[Ty.sub,if_pos ⟨rfl,h1,J⟩,e,fp,fc,cC,bu j];show iB ns[i]=_
    obtain⟨rfl,rfl,rfl⟩:m=[]/\ar=[]/\fl=[]:=by
     unfold dV at hs;split at hs
     ·cases hs
     ·simpa[Ty.k,Ty.m,Ty.ar,Ty.fl,and_assoc]using hs
    rw[c];rfl
 ·rw[jg a]
  have e1:t.ar.map (Ty.sub ns (ns.map iB))=t.ar:=by
   conv=>rhs;rw[<- List.map_id t.ar]
   exact eF λu hu=>d u (kS hu) λv a=>h v (jr (kS hu) a)
  have e2:t.fl.map (Fe.sub ns (ns.map iB))=t.fl:=by
   conv=>rhs;rw[<- List.map_id t.fl]
   refine eF λf hf=>?_;have b:f.t∈t.eA:=cP _ (bH.2 ⟨f,hf,rfl⟩);rw[Fe.sub_eq,d f.t b λv a=>h v (jr b a)];cases f;rfl
  rw[e1,e2];cases t;rfl
end
end Go.VC
namespace Go.VC
open Classical
section
variable {env:List IF}{w:Pm->Bool}{m n:S}
def Er{k:Nat}(h:k<8):(wV k).length<=1048576:=by unfold wV;rw[Go.Lib.decDigits,dif_pos yO];simp
def CM{α:Type}(l:List α):(l.map λ_=>1).sum=l.length:=by
 induction l with
 |nil=>rfl
 |cons x l a=>rw[bF,bV,a,bI];omega
def Bb:∀{l:List Pm}{k:Nat},mV w k l=0->∀i (h:i<l.length),l[i].name=wV (k+i)
 |[],k,_,i,h=>yE h
 |p::l,k,h,i,b=>by
  rw[mV]at h;split at h
  ·cases h
  ·rename_i a;split at h
   ·cases h
   ·cases i with
    |zero=>simpa using a
    |succ i=>have:=Bb h i (yU b);rw[List.getElem_cons_succ,this];congr 1;omega
def Bc{l:List Pm}(h:jW w l=0):l.length<=8/\l.map Pm.name=(dF l.length).map wV:=by
 unfold jW at h;split at h
 ·cases h
 ·refine⟨yO,Ak yS λi h1 J=>?_⟩;rw[jT,jT,Ot,Bb h i (yU h1),dY]
def Gq(a:ml env)(h:(cp env m n).2.2=0):(cp env m n).1.params.length<=8/\(cp env m n).1.params.map Pm.name=(dF (cp env m n).1.params.length).map wV:=by obtain⟨i,b,c⟩:=lg h;obtain⟨_,_,_,_,_,d⟩:=qq ((a.ok i b).t _ c);exact Bc d
def P7(d:ml env){ps:List Pm}(l:ps.map Pm.name=(dF ps.length).map wV)(e:(cG env (mb m n ps)).2.2=0):
 (cG env (mb m n ps)).1=(cp env m n).1.lower/\(cG env (mb m n ps)).2.1=(cp env m n).1.upper/\(cp env m n).2.2=0:=by
 have hk:(mb m n ps).k=10:=rfl;unfold cG at e ⊢;rw[if_neg (by simp[hk])]at e ⊢;have f:(mb m n ps).m=m:=rfl;have a:(mb m n ps).n=n:=rfl;have c:(mb m n ps).ar=ps.map λp=>iB p.name:=rfl;rw[f,a,c]at e ⊢;by_cases h1:(cp env m n).2.2=0
 ·rw[if_neg (yU h1)]at e ⊢;by_cases J:(ps.map λp=>iB p.name).length=(cp env m n).1.params.length
  ·rw[if_neg (yU J)];obtain⟨i,k,o⟩:=lg h1;obtain⟨g,j,_⟩:=qq ((d.ok i k).t _ o);obtain⟨_,b⟩:=Gq d h1;have hl:ps.length=(cp env m n).1.params.length:=yU J;have h:(ps.map λp=>iB p.name)=((cp env m n).1.params.map (·.name)).map iB:=by rw[show (cp env m n).1.params.map (·.name)=ps.map Pm.name by rw[l,hl];exact b,ep];rfl
   rw[h];exact⟨Co _ λu hu=>va (qm g u hu),Co _ λu hu=>va (qm j u hu),h1⟩
  ·rw[if_pos (yU J)]at e;cases e
 ·rw[if_pos (yU h1)]at e;exact absurd e h1
def Je:∀{l:List Pm}{vs:List S},zQ env vs l=true->∀p∈l,Cf p.name=true/\dI env (vs++fC l) p.bound=true
 |[],vs,_,p,a=>yE a
 |q::l,vs,h,p,a=>by
  rw[zQ]at h;simp only[bn]at h;have b:vs++fC (q::l)=(vs++[q.name])++fC l:=by unfold fC;simp
  rcases bx.1 a with rfl|a
  ·exact⟨h.1.1.1,zx (λx c=>cy _ c) h.1.2⟩
  ·rw[b];exact Je h.2 p a
def P5{de:D}(E:nO env de){ctx:List Pm}{dc:D}(hc:dc=bt dB ctx)(V:fC ctx=(dF ctx.length).map wV)(h8:ctx.length<=8)(q:FD env ctx=true)
 {l P:List Ty} (hT:FY env l P) (hb:∀p∈ctx,p.bound∈l\/p.bound=Ty.zero) (L:∀p∈ctx,p.bound.fit) (R:∀i∈env,∀x∈i.types,x.lower∈l/\x.upper∈l)
 {rs:List (S×S)} (hr:rs.length<=2) (I:∀r∈rs,dI env (fC ctx) (mb r.1 r.2 ctx)=true/\r.1.length<=1048576/\r.2.length<=1048576):
 ∃C,Jo env ctx C de dc/\(∀u∈C,dI env (fC ctx) u=true)/\(∀u∈l,u.fit->dI env (fC ctx) u=true->u∈C)/\Ty.zero∈C/\(∀p∈ctx,iB p.name∈C)/\∀r∈rs,mb r.1 r.2 ctx∈C:=by
 unfold FD at q;rw[bn]at q;have O:=zH (tB q.1);have U:=Je q.2;have H:∀p∈ctx,dI env (fC ctx) (iB p.name)=true:=λp g=>Kr (by unfold fC;exact bH.2 ⟨p,g,rfl⟩) (U p g).1
 have Q:∀p∈ctx,p.name.length<=1048576:=λp g=>by
  have:p.name∈fC ctx:=by unfold fC;exact bH.2 ⟨p,g,rfl⟩
  rw[V]at this;obtain⟨k,hk,e⟩:=bH.1 this;have hk:k<8:=by have:=k9.1 hk;omega
  rw[<- e];exact Er hk
 have B:∀p∈ctx,Cs (iB p.name):=λp g=>Cs.form (vs:=fC ctx) (env:=env) ⟨.mk _ (by simp[iB,Ty.ar]) (by simp[iB,Ty.fl]) (by simp[iB,Ty.ar]) (by simp[iB,Ty.fl]),by simp[iB,Ty.size,Ty.lZ,Ty.ma],λu hu=>by obtain rfl:=Ce hu;exact⟨by simp[iB,Ty.m],Q p g,by simp[iB,Ty.fl]⟩⟩ (H p g)
 have T:∀r∈rs,Cs (mb r.1 r.2 ctx):=λr hr=>by
  obtain⟨f,l1,l2⟩:=I r hr;refine Cs.form (vs:=fC ctx) (env:=env) ⟨.mk _ (by simp[mb,Ty.ar];omega) (by simp[mb,Ty.fl]) (λu hu=>?_) (by simp[mb,Ty.fl]),?_,λu hu=>?_⟩ f
  ·obtain⟨p,g,rfl⟩:=bH.1 hu;exact(B p g).ct.le
  ·have:∀ps:List Pm,(mb r.1 r.2 ps).size=1+ps.length:=λps=>by
    rw[size_eq];have:(mb r.1 r.2 ps).eA=ps.map λp=>iB p.name:=by simp[mb,Ty.eA,Ty.ar,Ty.fl]
    rw[this,ep];have:(Ty.size∘λp:Pm=>iB p.name)=λ_=>1:=by funext p;simp[iB,Ty.size,Ty.lZ,Ty.ma]
    rw[this,CM]
   rw[this];omega
  ·rw[all_eq]at hu;rcases bx.1 hu with rfl|hu
   ·exact⟨l1,l2,by simp[mb,Ty.fl]⟩
   ·obtain⟨v,G,hu⟩:=cb.1 hu;have G:v∈ctx.map λp=>iB p.name:=by simpa[mb,Ty.eA,Ty.ar,Ty.fl]using G
    obtain⟨p,g,rfl⟩:=bH.1 G;exact(B p g).ct.me u hu
 obtain⟨F,W⟩:∃F,F=P.filter λt=>decide (Cs t)&&dI env (fC ctx) t:=⟨_,rfl⟩;have A:∀t,t∈F↔t∈P/\Cs t/\dI env (fC ctx) t=true:=λt=>by rw[W,hZ];simp
 obtain⟨C,K⟩:∃C,C=F++(Ty.zero::(ctx.map (λp=>iB p.name)++rs.map λr=>mb r.1 r.2 ctx)):=⟨_,rfl⟩;have j:∀t,t∈C↔t∈F\/t=Ty.zero\/(∃p∈ctx,iB p.name=t)\/∃r∈rs,mb r.1 r.2 ctx=t:=λt=>by rw[K];simp only[bE,bx,bH]
 have hz:Ty.zero∈C:=(j _).2 (.inr (.inl rfl));have G:∀p∈ctx,iB p.name∈C:=λp g=>(j _).2 (.inr (.inr (.inl ⟨p,g,rfl⟩)));have z:∀u∈l,Cs u->dI env (fC ctx) u=true->u∈C:=λu hu hc hf=>(j _).2 (.inl ((A u).2 ⟨hT.init u hu,hc,hf⟩))
 have s:∀t∈C,Cs t/\dI env (fC ctx) t=true:=λt o=>by
  rcases(j t).1 o with h|rfl|⟨p,g,rfl⟩|⟨r,hr,rfl⟩
  ·exact((A t).1 h).2
  ·exact⟨Cs.zero,Hk⟩
  ·exact⟨B p g,H p g⟩
  ·exact⟨T r hr,(I r hr).1⟩
 refine⟨C,⟨E.he,E.dJ,hc,yO,⟨?_,λt o=>(s t o).1.ct,λt o=>?_,λt o u hu=>?_,λt o e=>?_,λp g=>?_⟩,λt o=>(s t o).1.sh t (fK t)⟩,λu hu=>(s u hu).2,λu hu hf h=>z u hu (Cs.form hf h) h,hz,G,λr hr=>(j _).2 (.inr (.inr (.inr ⟨r,hr,rfl⟩)))⟩
 ·have h1:F.length<=120:=by rw[W];exact bM (jo _ _) hT.len
  rw[K];simp only[bp,bI,bA];omega
 ·rcases(j t).1 o with h|rfl|⟨p,g,rfl⟩|⟨r,hr,rfl⟩
  ·exact hT.sz t ((A t).1 h).1
  ·decide
  ·simp[iB,Ty.size,Ty.lZ,Ty.ma]
  ·rw[size_eq];have:(mb r.1 r.2 ctx).eA=ctx.map λp=>iB p.name:=by simp[mb,Ty.eA,Ty.ar,Ty.fl]
   rw[this,ep];have:(Ty.size∘λp:Pm=>iB p.name)=λ_=>1:=by funext p;simp[iB,Ty.size,Ty.lZ,Ty.ma]
   rw[this,CM];omega
 ·rcases(j t).1 o with h|rfl|⟨p,g,rfl⟩|⟨r,hr,rfl⟩
  ·obtain⟨a,b,c⟩:=(A t).1 h;exact(j u).2 (.inl ((A u).2 ⟨hT.eA t a u hu,b.part hu,zw c hu⟩))
  ·simp[Ty.zero,Ty.eA,Ty.ar,Ty.fl]at hu
  ·simp[iB,Ty.eA,Ty.ar,Ty.fl]at hu
  ·have hu:u∈ctx.map λp=>iB p.name:=by simpa[mb,Ty.eA,Ty.ar,Ty.fl]using hu
   obtain⟨p,g,rfl⟩:=bH.1 hu;exact G p g
 ·obtain⟨c1,c2⟩:=s t o;obtain⟨x,y⟩:=Cs.gr O E.ec c1;obtain⟨N,M⟩:=Ks O c2 e;rcases(j t).1 o with h|rfl|⟨p,g,rfl⟩|⟨r,hr,rfl⟩
  ·obtain⟨c,d⟩:=hT.gr t ((A t).1 h).1 e;exact⟨(j _).2 (.inl ((A _).2 ⟨c,x,N⟩)),(j _).2 (.inl ((A _).2 ⟨d,y,M⟩))⟩
  ·cases e
  ·cases e
  ·obtain⟨e1,e2,e3⟩:=P7 O (by unfold fC at V;exact V) e;obtain⟨i,hi,hx⟩:=lg e3;obtain⟨z1,z2⟩:=R i hi _ hx;rw[e1]at x N ⊢;rw[e2]at y M ⊢;exact⟨z _ z1 x N,z _ z2 y M⟩
 ·rcases hb p g with h|h
  ·exact z _ h (Cs.form (L p g) ((by simpa using(U p g).2))) (by simpa using(U p g).2)
  ·rw[h];exact hz
end
end Go.VC
