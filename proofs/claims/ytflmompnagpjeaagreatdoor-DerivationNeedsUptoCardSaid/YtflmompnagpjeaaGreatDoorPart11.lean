/- Part 11 of the common texts. -/
import Derived.Test.YtflmompnagpjeaaGreatDoorPart10
set_option linter.all false
set_option maxRecDepth 100000
set_option maxHeartbeats 16000000
open Bool renaming and_eq_true→bw,and_false→iI,not_eq_true→zz
open Decidable renaming em→pF
open Int renaming toNat_natCast→ej
open List renaming all_eq_false→pE,all_eq_true→eF,any_eq_true→eE,drop_eq_getElem_cons→bF,foldl_cons→fB,length→iS,length_filter_le→lO,length_map→bL,length_nil→bX,length_take→cJ,map_append→cj,map_cons→bJ,map_map→ia,mem_append→bG,mem_append_left→dF,mem_append_right→dI,mem_cons→bN,mem_filter→kH,mem_map→bP,nil_append→jg,nodup_append→cV,nodup_cons→cw,take_append_drop→cX
open Nat renaming le_refl→cg,le_trans→bQ
namespace Go.VC
open Classical
section
variable {dec:Jm->Mem->Option (Bool×Mem)}{j:Jm}{g:List Jm}
abbrev Pr:=Ty->Ty->Nat->Option (List Jm)
def Sup(a:Pr)(X b:Jm->Prop):Prop:=∀x,X x->∃r∈[1,2,3,4,5],∃l,a x.1 x.2 r=some l/\∀y∈l,b y
def Gp(a:Pr)(j:Jm):Prop:=∃X,Sup a X X/\X j
def Gp.un{a:Pr}(h:Gp a j):∃r∈[1,2,3,4,5],∃l,a j.1 j.2 r=some l/\∀y∈l,Gp a y:=by obtain⟨X,h1,J⟩:=h;obtain⟨r,hr,l,hl,b⟩:=h1 j J;exact⟨r,hr,l,hl,λy h=>⟨X,h1,b y h⟩⟩
def Hn{c:Pr}(e:∀j g b q,dec j (g,b)=some q->(∀x∈b,¬Gp c x)->(Gp c j->q.1=true)/\∀x∈q.2.2,¬Gp c x):
 ∀(l:List Jm)(g b:List Jm)(q:Bool×Mem),lD dec l (g,b)=some q->(∀x∈b,¬Gp c x)->((∀y∈l,Gp c y)->q.1=true)/\∀x∈q.2.2,¬Gp c x
 |[],g,b,q,h,hb=>by rw[lD]at h;cases h;exact⟨λ_=>rfl,hb⟩
 |j::l,g,b,q,h,hb=>by
  rw[lD]at h;cases d:dec j (g,b)with
  |none=>rw[d]at h;cases h
  |some r=>
   obtain⟨r0,i,b'⟩:=r;obtain⟨h1,J⟩:=e j g b _ d hb;rw[d]at h;cases r0 with
   |false=>cases h;exact⟨λa=>absurd (h1 (a j yS)) yS,J⟩
   |true=>obtain⟨h3,h4⟩:=Hn e l i b' q h J;exact⟨λa=>h3 λy f=>a y (by simp[f]),h4⟩
def uS{d:Pr}(m:∀j g b q,dec j (g,b)=some q->(∀x∈b,¬Gp d x)->(Gp d j->q.1=true)/\∀x∈q.2.2,¬Gp d x):
 ∀(f:List Nat)(b:List Jm)(q:Bool×Mem),gA dec (d j.1 j.2) j g f b=some q->(∀x∈b,¬Gp d x)->(Gp d j->∃r∈f,∃l,d j.1 j.2 r=some l/\∀y∈l,Gp d y)->(Gp d j->q.1=true)/\∀x∈q.2.2,¬Gp d x
 |[],b,q,h,hb,hw=>by
  have o:¬Gp d j:=λa=>by obtain⟨r,hr,_⟩:=hw a;simp at hr
  rw[gA]at h;cases h
  exact⟨λa=>absurd a o,λx e=>by
   rcases bG.1 e with e|e
   ·exact hb x e
   ·simp at e;subst e;exact o⟩
 |r::f,b,q,h,hb,hw=>by
  rw[gA]at h;cases i:d j.1 j.2 r with
  |none=>
   rw[i]at h;refine uS m f b q h hb λa=>?_;obtain⟨r',c,l,hl,k⟩:=hw a;rcases bN.1 c with rfl|c
   ·rw[i]at hl;cases hl
   ·exact⟨r',c,l,hl,k⟩
  |some l=>
   rw[i]at h;simp only at h;cases n:lD dec l (g++[j],b)with
   |none=>rw[n]at h;cases h
   |some t=>
    obtain⟨p,u,b'⟩:=t;obtain⟨h1,J⟩:=Hn m l _ b _ n hb;rw[n]at h;cases p with
    |true=>cases h;exact⟨λ_=>rfl,J⟩
    |false=>
     refine uS m f b' q h J λa=>?_;obtain⟨r',c,s,hl,k⟩:=hw a;rcases bN.1 c with rfl|c
     ·rw[i]at hl;cases hl;exact absurd (h1 k) yS
     ·exact⟨r',c,s,hl,k⟩
def H5{c:Pr}:∀(n:Nat)(j:Jm)(g b:List Jm)(q:Bool×Mem),pw c n j (g,b)=some q->(∀x∈b,¬Gp c x)->(Gp c j->q.1=true)/\∀x∈q.2.2,¬Gp c x
 |0,j,g,b,q,h,hb=>yC h
 |n+1,j,g,b,q,h,hb=>by
  rw[pw]at h;by_cases e:j∈b
  ·rw[if_pos e]at h;cases h;exact⟨λa=>absurd a (hb j e),hb⟩
  rw[if_neg e]at h;by_cases e2:j∈g
  ·rw[if_pos e2]at h;cases h;exact⟨λ_=>rfl,hb⟩
  rw[if_neg e2]at h;exact uS (λj g b q=>H5 n j g b q) _ b q h hb Gp.un
def Sg(b:Pr)(g a:List Jm):Prop:=(∀x∈g,x∈a)/\∀x∈a,x∈g\/∃r∈[1,2,3,4,5],∃l,b x.1 x.2 r=some l/\∀y∈l,y∈a
def Sg.trans{e:Pr}{a b c:List Jm}(h:Sg e a b)(k:Sg e b c):Sg e a c:=⟨λx d=>k.1 x (h.1 x d),λx d=>by
 rcases k.2 x d with d|d
 ·rcases h.2 x d with d|⟨r,hr,l,hl,f⟩
  ·exact .inl d
  ·exact .inr ⟨r,hr,l,hl,λy a=>k.1 y (f y a)⟩
 ·exact .inr d⟩
def Di{f:Pr}(e:∀j g b a b',dec j (g,b)=some (true,(a,b'))->Sg f g a/\j∈a):
 ∀(l:List Jm)(g b a b':List Jm),lD dec l (g,b)=some (true,(a,b'))->Sg f g a/\∀y∈l,y∈a
 |[],g,b,a,b',h=>by rw[lD]at h;cases h;exact⟨⟨λx h=>h,λx h=>.inl h⟩,yS⟩
 |j::l,g,b,a,b',h=>by
  rw[lD]at h;cases c:dec j (g,b)with
  |none=>rw[c]at h;cases h
  |some r=>
   obtain⟨r0,g1,b1⟩:=r;rw[c]at h;cases r0 with
   |false=>cases h
   |true=>obtain⟨h1,J⟩:=e j g b _ _ c;obtain⟨h3,h4⟩:=Di e l g1 b1 a b' h;exact⟨h1.trans h3,λy d=>by rcases bN.1 d with rfl|d;exact h3.1 _ J;exact h4 y d⟩
def sF{e:Pr}(f:∀j g b a b',dec j (g,b)=some (true,(a,b'))->Sg e g a/\j∈a):
 ∀(d:List Nat)(b a b':List Jm),(∀r∈d,r∈[1,2,3,4,5])->gA dec (e j.1 j.2) j g d b=some (true,(a,b'))->Sg e g a/\j∈a
 |[],b,a,b',_,h=>by rw[gA]at h;cases h
 |r::d,b,a,b',hr,h=>by
  rw[gA]at h;cases i:e j.1 j.2 r with
  |none=>rw[i]at h;exact sF f d b a b' (λx c=>hr x (by simp[c])) h
  |some l=>
   rw[i]at h;simp only at h;cases k:lD dec l (g++[j],b)with
   |none=>rw[k]at h;cases h
   |some n=>
    obtain⟨m,g1,b1⟩:=n;rw[k]at h;cases m with
    |false=>exact sF f d b1 a b' (λx c=>hr x (by simp[c])) h
    |true=>
     cases h;obtain⟨⟨h1,J⟩,h3⟩:=Di f l _ b _ _ k;refine⟨⟨λx c=>h1 x (by simp[c]),λx c=>?_⟩,h1 j yS⟩;rcases J x c with h4|h4
     ·rcases bG.1 h4 with h4|h4
      ·exact .inl h4
      ·simp at h4;subst h4;exact .inr ⟨r,hr r yS,l,i,h3⟩
     ·exact .inr h4
def Er{c:Pr}:∀(n:Nat)(j:Jm)(g b a b':List Jm),pw c n j (g,b)=some (true,(a,b'))->Sg c g a/\j∈a
 |0,j,g,b,a,b',h=>yC h
 |n+1,j,g,b,a,b',h=>by
  rw[pw]at h;by_cases e:j∈b
  ·rw[if_pos e]at h;cases h
  rw[if_neg e]at h;by_cases e2:j∈g
  ·rw[if_pos e2]at h;cases h;exact⟨⟨λx h=>h,λx h=>.inl h⟩,e2⟩
  rw[if_neg e2]at h;exact sF (λj g b a b'=>Er n j g b a b') _ b a b' (λr h=>h) h
def Rb{env:List IF}{ctx:List Pm}{C:List Ty}(hC:Bh env ctx C){s t:Ty}(hs:s∈C)(b:t∈C):LA env ctx s t=true↔Gp (lF env ctx) (s,t):=by
 obtain⟨n,m,a⟩:=yy hC hs b;constructor<;>intro e
 ·rw[e]at a;obtain⟨⟨_,J⟩,h3⟩:=Er n _ _ _ _ _ a;refine⟨λx=>x∈m.1,λx c=>?_,h3⟩;rcases J x c with h|h
  ·simp at h
  ·exact h
 ·exact(H5 n _ _ _ _ a yS).1 e
end
def tB{p:Nat->Option (List Jm)}{hb:Jm->Bool}:∀{d:List Nat}{r:Nat}{l:List Jm},sE p hb d=some (r,l)->r∈d/\p r=some l
 |[],r,l,h=>by cases h
 |a::d,r,l,h=>by
  rw[sE]at h;split at h
  ·have:=tB h;exact⟨by simp[this.1],this.2⟩
  ·split at h
   ·have:=tB h;exact⟨by simp[this.1],this.2⟩
   ·cases h;exact⟨by simp,by assumption⟩
def uN{p:Nat->Option (List Jm)}{hb:Jm->Bool}:∀{d:List Nat},(∃r∈d,∃l,p r=some l/\∀y∈l,hb y=true)->∃q,sE p hb d=some q
 |[],⟨r,hr,_⟩=>by simp at hr
 |a::d,⟨r,hr,l,hl,b⟩=>by
  rw[sE];split
  ·rename_i e;rcases bN.1 hr with rfl|hr
   ·rw[hl]at e;cases e
   ·exact uN ⟨r,hr,l,hl,b⟩
  ·rename_i c e;split
   ·rename_i ha;rcases bN.1 hr with rfl|hr
    ·rw[hl]at e;cases e;obtain⟨y,h1,J⟩:=eE.1 ha;rw[b y h1]at J;cases J
    ·exact uN ⟨r,hr,l,hl,b⟩
   ·exact⟨_,rfl⟩
def P8{env:List IF}{ctx:List Pm}{C:List Ty}(hC:Bh env ctx C){j:Jm}(h1:j.1∈C)(J:j.2∈C):hB env ctx j=true↔Gp (lF env ctx) j:=Rb hC h1 J
def Kx{env:List IF}{ctx:List Pm}{C:List Ty}(hC:Bh env ctx C){j:Jm}(h1:j.1∈C)(J:j.2∈C)(h:hB env ctx j=true):∃q,sE (zF env ctx j) (hB env ctx) [1,2,3,4,5]=some q:=by obtain⟨r,hr,l,hl,b⟩:=((P8 hC h1 J).1 h).un;refine uN ⟨r,hr,l,hl,λy a=>?_⟩;have:=hC.closed _ h1 _ J r l hl y a;exact(P8 hC this.1 this.2).2 (b y a)
def Wi(env:List IF)(ctx:List Pm)(z:If)(x:Jm):Prop:=∃m,nq env ctx z.2.1 z.2.2 z.1=some m/\x∈m
structure Wd (env:List IF) (ctx:List Pm) (st:O8):Prop where
 nd:(st.2.map (·.2)).Nodup
 sub:∀y∈st.2,y.2∈st.1
 par:∀pre y post,st.2=pre++y::post->pre≠[]->∃z∈pre,Wi env ctx z y.2
theorem Wd.sn{env:List IF}{ctx:List Pm}{sn:List Jm}{out:List If}{j:Jm}(h:Wd env ctx (sn,out)):Wd env ctx (sn++[j],out):=⟨h.nd,λy a=>dF _ (h.sub y a),h.par⟩
def Wd.push{env:List IF}{ctx:List Pm}{sn:List Jm}{out:List If}{j:Jm}(h:Wd env ctx (sn,out))(i:j∉sn)(n:Int)(f:out=[]\/∃z∈out,Wi env ctx z j):Wd env ctx (sn++[j],out++[(n,j)]):=by
 refine⟨?_,λy d=>?_,λpre y post e g=>?_⟩
 ·rw[cj,cV];refine⟨h.nd,by simp,λa ha b hb=>?_⟩;simp at hb;subst hb;obtain⟨y,d,rfl⟩:=bP.1 ha;exactλe=>i (e▸h.sub y d)
 ·rcases bG.1 d with d|d
  ·exact dF _ (h.sub y d)
  ·simp at d;subst d;simp
 ·rcases List.eq_nil_or_concat post with rfl|⟨c,z,rfl⟩
  ·have e':out++[(n,j)]=pre++[y]:=e;obtain⟨e1,e2⟩:=List.append_inj' e' rfl;simp at e2;subst e2;rcases f with f|f
   ·exact absurd (e1.symm.trans f) g
   ·rw[<- e1];exact f
  ·have e':out++[(n,j)]=(pre++y::c)++[z]:=by simpa using e
   obtain⟨e1,e2⟩:=List.append_inj' e' rfl;exact h.par pre y c e1 g
def G6{env:List IF}{ctx:List Pm}{hb:Jm->Bool}:∀n j st,Wd env ctx st->(st.2=[]\/∃z∈st.2,Wi env ctx z j)->Wd env ctx (lB (zF env ctx) hb n j st)/\∃x,(lB (zF env ctx) hb n j st).2=st.2++x:=by
 intro n;induction n with
 |zero=>intro j st h _;exact⟨h,[],by simp[lB]⟩
 |succ n k=>
  intro j ⟨sn,out⟩ h i;rw[lB];split
  ·exact⟨h,[],by simp⟩
  ·rename_i p;split
   ·exact⟨h.sn,[],by simp⟩
   ·rename_i r l c;obtain⟨hr,hl⟩:=tB c
    have hl:nq env ctx j.1 j.2 (r:Int)=some l:=by
     unfold nq;have:1<=r/\r<=5:=by simp at hr;omega
     rw[if_pos (by omega),ej];exact hl
    have key:∀(b:List Jm)(st:O8),(∀x∈b,x∈l)->Wd env ctx st->(∃z∈st.2,z=((r:Int),j))->Wd env ctx (b.foldl (λst x=>lB (zF env ctx) hb n x st) st)/\∃x,(b.foldl (λst x=>lB (zF env ctx) hb n x st) st).2=st.2++x:=by
     intro b;induction b with
     |nil=>intro st _ h _;exact⟨h,[],by simp⟩
     |cons x b f=>intro st g h ⟨z,hz,d⟩;obtain⟨h1,a,e⟩:=k x st h (.inr ⟨z,hz,by rw[d];exact⟨l,hl,g x (by simp)⟩⟩);obtain⟨J,o,e'⟩:=f _ (λy m=>g y (by simp[m])) h1 ⟨z,by rw[e];simp[hz],d⟩;exact⟨J,a++o,by rw[fB,e',e];simp⟩
    obtain⟨h1,a,e⟩:=key l _ (λx h=>h) (h.push p (r:Int) i) ⟨((r:Int),j),by simp,rfl⟩;exact⟨h1,[((r:Int),j)]++a,by rw[e];simp⟩
def Eg{env:List IF}{ctx:List Pm}{C:List Ty}(hC:Bh env ctx C){j:Jm}(h1:j.1∈C)(J:j.2∈C)(h:hB env ctx j=true):
 (∃n x,wv env ctx j=(n,j)::x)/\((wv env ctx j).map (·.2)).Nodup/\(∀pre y post,wv env ctx j=pre++y::post->pre≠[]->∃z∈pre,Wi env ctx z y.2)/\∀y∈wv env ctx j,y.2.1∈C/\y.2.2∈C:=by
 have k:Wd env ctx ([],[]):=⟨by simp,by simp,λpre y post e=>by simp at e⟩;obtain⟨a1,_⟩:=G6 (hb:=hB env ctx) 20000 j ([],[]) k (.inl rfl);have f:∀j:Jm,j.1∈C->j.2∈C->∀r l,zF env ctx j r=some l->∀x∈l,x.1∈C/\x.2∈C:=λj h1 J r l e x b=>hC.closed j.1 h1 j.2 J r l e x b;obtain⟨b1,_⟩:=zX (C:=C) (hb:=hB env ctx) f 20000 j ([],[]) ⟨h1,J⟩ ⟨by simp,by simp,cg _⟩;refine⟨?_,a1.nd,a1.par,λy g=>b1.mem _ (a1.sub y g)⟩;obtain⟨⟨r,l⟩,m⟩:=Kx hC h1 J h;have o:wv env ctx j=(lB (zF env ctx) (hB env ctx) (19999+1) j ([],[])).2:=rfl;rw[o,lB,if_neg (by simp),m];simp only[jg];obtain⟨hr,hl⟩:=tB m
 have hl:nq env ctx j.1 j.2 (r:Int)=some l:=by
  unfold nq;have:1<=r/\r<=5:=by simp at hr;omega
  rw[if_pos (by omega),ej];exact hl
 have key:∀(c:List Jm)(st:O8),(∀x∈c,x∈l)->Wd env ctx st->(∃z∈st.2,z=((r:Int),j))->∃x,(c.foldl (λst x=>lB (zF env ctx) (hB env ctx) 19999 x st) st).2=st.2++x:=by
  intro c;induction c with
  |nil=>intro st _ h _;exact⟨[],by simp⟩
  |cons x c i=>intro st b h ⟨z,hz,d⟩;obtain⟨h1,a,e⟩:=G6 (hb:=hB env ctx) 19999 x st h (.inr ⟨z,hz,by rw[d];exact⟨l,hl,b x (by simp)⟩⟩);obtain⟨p,e'⟩:=i _ (λy g=>b y (by simp[g])) h1 ⟨z,by rw[e];simp[hz],d⟩;exact⟨a++p,by rw[fB,e',e];simp⟩
 obtain⟨x,b⟩:=key l ([j],[((r:Int),j)]) (λx h=>h) (by have:=k.push (j:=j) (by simp) (r:Int) (.inl rfl);simpa using this) ⟨((r:Int),j),by simp,rfl⟩;exact⟨r,x,by rw[b];rfl⟩
def Jj{env:List IF}{ctx:List Pm}{C:List Ty}(hC:Bh env ctx C){j:Jm}(h1:j.1∈C)(J:j.2∈C)(h:hB env ctx j=true){i:Nat}(g:i<(wv env ctx j).length):
 Jr env ctx ((wv env ctx j).take i++(wv env ctx j).drop (i+1)) j=false:=by
 obtain⟨⟨n,x,k⟩,fR,b,_⟩:=Eg hC h1 J h;obtain⟨L,o⟩:∃L,L=wv env ctx j:=⟨_,rfl⟩;rw[<- o]at k fR b g ⊢;have d:L=L.take i++L[i]::L.drop (i+1):=by rw[<- bF g,cX]
 have c:L[i].2∉(L.take i++L.drop (i+1)).map (·.2):=by
  rw[d,cj,bJ,cV]at fR;obtain⟨_,h3,h4⟩:=fR;rw[cw]at h3;rw[cj,bG];rintro(a|a)
  ·exact h4 _ a _ (by simp) rfl
  ·exact h3.1 a
 unfold Jr;by_cases h0:i=0
 ·subst h0;have:L[0].2=j:=by simp only[k];rfl
  rw[this]at c;rw[decide_eq_false c,iI]
 ·obtain⟨z,hz,m,l,f⟩:=b _ _ _ d (by intro e;have:=congrArg iS e;rw[cJ,bX]at this;omega);have hf:(L.take i++L.drop (i+1)).all (BC env ctx ((L.take i++L.drop (i+1)).map (·.2)))=false:=by rw[pE];refine⟨z,dF _ hz,?_⟩;unfold BC;rw[l];simp only[zz,Bool.not_eq_false'];exact eE.2 ⟨_,f,by simpa using c⟩
  rw[hf];simp
section
variable {env:List IF}{ns vs:List S}{ts l:List Ty}{ctx:List Pm}
def zo{α:Type}{p:α->Bool}{f:α->α}(h:∀x,p (f x)=p x)(l:List α):(l.map f).any p=l.any p:=by rw[List.any_map];congr 1;funext x;exact h x
def Da{v:Ty}(a:¬(v.k=9/\0<=jb ns v.n/\jb ns v.n<ts.length)):eA (v.sub ns ts)=eA v:=by rw[jD a];have e1:(v.fl.map (Fe.sub ns ts)).any Fe.b=v.fl.any Fe.b:=zo (λf=>by cases f;rfl) _;unfold eA;simp only[Ty.k,Ty.m,Ty.n,Ty.ar,Ty.fl,bL]at*;rw[e1];cases v;rfl
def Fv(t:Ty):eA (EH t)=eA t:=by have e1:(t.fl.map wz).any Fe.b=t.fl.any Fe.b:=zo (λf=>by cases f;rfl) _;unfold eA EH;simp only[Ty.k,Ty.m,Ty.n,Ty.ar,Ty.fl,bL,List.length_replicate]at*;rw[e1];cases t;rfl
def QK{t:Ty}(h:(EH t).rR):t.rR:=by
 have a:(EH t).ar.length=t.ar.length:=by unfold EH;simp[Ty.ar]
 have ef:(EH t).fl=t.fl.map wz:=rfl;have b:(EH t).k=t.k:=rfl;refine⟨λhk=>by rw[<- a];exact h.a hk,λhk=>?_,?_,h.k⟩
 ·obtain⟨h1,J⟩:=h.r hk;exact⟨by rw[<- a];exact h1,λf hf=>J (wz f) (by rw[ef];exact bP.2 ⟨f,hf,rfl⟩)⟩
 ·have:=h.nd;rw[ef,ia]at this;have e2:(Fe.s∘wz)=Fe.s:=by funext f;cases f;rfl
  rw[e2]at this;exact this
def Fl{u:Ty}(h:CU u=0):eA u=true:=by
 unfold CU at h;cases hs:eA u with
 |true=>rfl
 |false=>rw[hs]at h;simp at h
def Bo{t:Ty}(h:tk env vs t=0):∀u∈t.all,CU u=0:=by
 have h1:=(CM.1 h).1;unfold Mg at h1;split at h1
 ·cases h1
 ·intro u hu;exact qF.1 h1 _ (bP.2 ⟨u,hu,rfl⟩)
structure Cs (t:Ty):Prop where
 ct:Ct t
 sh:∀u∈t.all,eA u=true
def Cs.part{t u:Ty}(h:Cs t)(hu:u∈t.er):Cs u:=⟨h.ct.part hu,λv a=>h.sh v (jL hu a)⟩
def Cs.zero:Cs Ty.zero:=⟨Ct.zero,λu hu=>by
 have:u=Ty.zero:=by simpa[Ty.zero,Ty.all,Ty.uo,Ty.uq]using hu
 subst this;decide⟩
def Cs.form{t:Ty}(hf:t.fit)(h:gQ env vs t=true):Cs t:=by
 unfold gQ at h;have h:∀u∈t.all,tk env vs (EH u)=0:=λu hu=>by simpa using eF.1 h u hu
 exact⟨⟨hf.le,hf.mi,λu hu=>QK (He (Bo (h u hu) _ (gy _)))⟩,λu hu=>by rw[<- Fv];exact Fl (Bo (h u hu) _ (gy _))⟩
def Cs.sub{y:Ty}(a:∀u∈ts,Cs u)(h:Cs y):Cs (y.sub ns ts):=⟨h.ct.sub (λu hu=>(a u hu).ct),BA (P:=λt=>eA t=true) (λu hu=>(a u hu).sh) (λv b c=>by rw[Da c];exact b) y h.sh⟩
def Cs.gh(d:wj env)(eO:∀i∈env,i.fit){t:Ty}(h:Cs t):Cs (cQ env t).1/\Cs (cQ env t).2.1:=by
 unfold cQ;split
 ·exact⟨Cs.zero,Cs.zero⟩
 ·split
  ·exact⟨Cs.zero,Cs.zero⟩
  ·rename_i h1;split
   ·exact⟨Cs.zero,Cs.zero⟩
   ·obtain⟨i,e,f⟩:=xg (yU h1);obtain⟨a,b⟩:=Ct.ty d eO e f;obtain⟨g,j,_⟩:=xh ((d.ok i e).t _ f);have c:∀u∈t.ar,Cs u:=λu hu=>h.part (nW hu);exact⟨Cs.sub c ⟨a,λu hu=>Fl (Bo g u hu)⟩,Cs.sub c ⟨b,λu hu=>Fl (Bo j u hu)⟩⟩
def JA.cls{C:List Ty}(h:JA env l C)(m:wj env)(eO:∀i∈env,i.fit){k:List Ty}(hk:∀t∈k,t∈l/\Cs t)(hc:∀p∈ctx,p.bound∈k):∃j,Bh env ctx j/\(∀t∈j,eA t=true)/\∀t∈k,t∈j:=by
 have g:∀t,t∈C.filter (λt=>decide (Cs t))↔t∈C/\Cs t:=λt=>by rw[kH];simp
 refine⟨C.filter λt=>decide (Cs t),?_,λt f=>((g t).1 f).2.sh t (gy t),λt f=>(g t).2 ⟨h.init t (hk t f).1,(hk t f).2⟩⟩;refine⟨bQ (lO _ _) h.len,λt f=>((g t).1 f).2.ct,λt f=>h.sz t ((g t).1 f).1,λt f u hu=>?_,λt f e=>?_,λp n=>?_⟩
 ·obtain⟨a,b⟩:=(g t).1 f;exact(g u).2 ⟨h.er t a u hu,b.part hu⟩
 ·obtain⟨a,b⟩:=(g t).1 f;obtain⟨c,d⟩:=h.gh t a e;obtain⟨x,y⟩:=Cs.gh m eO b;exact⟨(g _).2 ⟨c,x⟩,(g _).2 ⟨d,y⟩⟩
 ·obtain⟨a,b⟩:=hk _ (hc p n);exact(g _).2 ⟨h.init _ a,b⟩
def J5(h:J6 env=true):(pX env).2=0:=by
 unfold J6 at h;simp only[bw,decide_eq_true_eq]at h;cases pF ((pX env).2=0)with
 |inl e=>exact e
 |inr e=>rw[xb e]at h;exact absurd h.1.1 e
def A5:∀{l:List Pm}{vs:List S},zd env vs l=true->∀p∈l,∃vs,gQ env vs p.bound=true
 |[],vs,_,p,a=>yE a
 |q::l,vs,h,p,a=>by
  rw[zd]at h;simp only[bw]at h;rcases bN.1 a with rfl|a
  ·exact⟨vs,h.1.2⟩
  ·exact A5 h.2 p a
def LO{de:D}(E:JH env de){dc:D}(hc:dc=bA eU ctx)(mZ:ctx.length<=1048576)(b:∀p∈ctx,p.bound.fit/\p.name.length<=1048576){s t:Ty}(fs:s.fit)(e:t.fit)
 {d:List Ty} (hT:JA env l d) (hs:s∈l) (g:t∈l) (hb:∀p∈ctx,p.bound∈l) (h:sT env ctx s t=true):∃C,JS env ctx C de dc/\s∈C/\t∈C:=by
 unfold sT Gz at h;simp only[bw]at h;obtain⟨⟨h1,J⟩,h3,h4⟩:=h;have c:=LZ (J5 h1)
 obtain⟨C,a1,a2,a3⟩:=hT.cls (ctx:=ctx) c E.eO (k:=[s,t]++ctx.map Pm.bound) (λu hu=>by
  rcases bG.1 hu with hu|hu
  ·simp at hu;rcases hu with rfl|rfl
   ·exact⟨hs,Cs.form fs h3⟩
   ·exact⟨g,Cs.form e h4⟩
  ·obtain⟨p,a,rfl⟩:=bP.1 hu;obtain⟨vs,f⟩:=A5 J p a;exact⟨hb p a,Cs.form (b p a).1 f⟩) (λp a=>dI _ (bP.2 ⟨p,a,rfl⟩))
 exact⟨C,⟨E.he,E.ek,hc,mZ,a1,a2⟩,a3 s yS,a3 t yS⟩
end
end Go.VC
