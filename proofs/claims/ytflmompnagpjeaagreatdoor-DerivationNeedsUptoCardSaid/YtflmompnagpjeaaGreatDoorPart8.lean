/- Part 8 of the common texts. -/
import Derived.Test.YtflmompnagpjeaaGreatDoorPart7
set_option linter.all false
set_option maxRecDepth 100000
set_option maxHeartbeats 16000000
open And renaming intro→bq
open Bool renaming and_eq_true→bw,and_false→iI,eq_iff_iff→cM,false_and→n9,false_eq_true→cv,not_eq_true→zz,or_eq_true→fU,or_true→wX
open Decidable renaming em→pF
open Eq renaming trans→iu
open Int renaming ofNat→bk,ofNat_eq_natCast→bz,ofNat_inj→GU
open List renaming append_assoc→bI,append_nil→cA,dropLast_concat_getLast→mX,drop_eq_getElem_cons→bF,drop_eq_nil_of_le→fo,drop_length→cd,eq_nil_of_length_eq_zero→bY,find?_cons→cH,find?_eq_none→eN,flatMap_append→eD,flatMap_cons→fP,getElem_mem→bu,length→iS,length_append→bt,length_cons→bM,length_filter_le→lO,length_map→bL,length_nil→bX,length_take→cJ,map_append→cj,map_congr_left→gw,map_cons→bJ,map_map→ia,mem_append→bG,mem_append_left→dF,mem_append_right→dI,mem_cons→bN,mem_filter→kH,mem_flatMap→dp,mem_map→bP,mem_of_find?_eq_some→eb,mem_of_mem_take→mq,nil_append→jg,pairwise_cons→fD,sum_cons→cm,take_append_drop→cX,take_length→bD,take_of_length_le→db
open List.Pairwise renaming imp→rY
open Nat renaming add_mul→c9,le_refl→cg,le_trans→bQ,mul_le_mul→oS,zero_le→bB
open Option renaming isSome_iff_exists→eQ,isSome_none→nH,map_some→cr
open Option.some renaming injEq→cz
open Or renaming inl→bE
namespace Go.VC
section
variable {ns:List S}{ts:List Ty}
def Hi{t:Ty}(h:¬(t.k=9/\0<=jb ns t.n/\jb ns t.n<ts.length)):(t.sub ns ts).er=t.er.map (Ty.sub ns ts):=by
 rw[jD h]
 have:∀l:List Fe,(l.map (Fe.sub ns ts)).map Fe.t=(l.map Fe.t).map (Ty.sub ns ts):=by
  intro l;induction l with
  |nil=>rfl
  |cons f l a=>simp only[bJ,a];cases f;rfl
 simp only[Ty.er,Ty.ar,Ty.fl,cj,this]
def Bz{t:Ty}(h:t.k=9/\0<=jb ns t.n/\jb ns t.n<ts.length):t.sub ns ts∈ts:=by obtain⟨a,b,c⟩:=h;rw[By a (i:=(jb ns t.n).toNat) yO yO];exact bu _
def BA{P Q:Ty->Prop}(c:∀u∈ts,∀v∈u.all,Q v)
 (b:∀v,P v->¬(v.k=9/\0<=jb ns v.n/\jb ns v.n<ts.length)->Q (v.sub ns ts)):∀t:Ty,(∀v∈t.all,P v)->∀v∈(t.sub ns ts).all,Q v:=by
 refine Ty.gj λt f=>?_;intro e v a;by_cases h:t.k=9/\0<=jb ns t.n/\jb ns t.n<ts.length
 ·exact c _ (Bz h) v a
 ·rw[all_eq,Hi h]at a;rcases bN.1 a with rfl|a
  ·exact b t (e t (gy t)) h
  ·obtain⟨u,hu,a⟩:=dp.1 a;obtain⟨w,d,rfl⟩:=bP.1 hu;exact f w d (λx g=>e x (jL d g)) v a
def Ki{B:Nat}(h1:1<=B)(hB:∀u∈ts,u.size<=B):∀t:Ty,(t.sub ns ts).size<=t.size*B:=by
 refine Ty.gj λt d=>?_;have f:=size_eq t;by_cases h:t.k=9/\0<=jb ns t.n/\jb ns t.n<ts.length
 ·have:=hB _ (Bz h);have J:B<=t.size*B:=Nat.le_mul_of_pos_left B yO;omega
 ·have hs:∀l:List Ty,(∀u∈l,(u.sub ns ts).size<=u.size*B)->((l.map (Ty.sub ns ts)).map Ty.size).sum<=(l.map Ty.size).sum*B:=by
   intro l;induction l with
   |nil=>intro _;simp
   |cons u l c=>intro hl;have a:=hl u yS;have b:=c λv e=>hl v (by simp[e]);simp only[bJ,cm,c9];omega
  have:=hs t.er d;rw[size_eq (t.sub ns ts),Hi h,f,c9];omega
def sub_le{n:Nat}(g:∀u∈ts,Ty.le n u):∀t:Ty,Ty.le n t->Ty.le n (t.sub ns ts):=by
 refine Ty.gj λt j=>?_;intro i;by_cases h:t.k=9/\0<=jb ns t.n/\jb ns t.n<ts.length
 ·exact g _ (Bz h)
 ·rw[jD h];cases i with
  |mk _ a b c d=>
   refine .mk _ (by simpa[Ty.ar]using a) (by simpa[Ty.fl]using b) (λu hu=>?_) (λf hf=>?_)
   ·obtain⟨w,e,rfl⟩:=bP.1 hu;exact j w (dF _ e) (c w e)
   ·obtain⟨w,e,rfl⟩:=bP.1 hf;have:=j w.t (dI _ (bP.2 ⟨w,e,rfl⟩)) (d w e);cases w;exact this
def NN(b:∀u∈ts,∀v∈u.all,v.mi){t:Ty}(h:∀v∈t.all,v.mi):∀v∈(t.sub ns ts).all,v.mi:=by refine BA (P:=Ty.mi) b (λv a d=>?_) t h;rw[jD d];refine⟨a.m,a.n,λx c=>?_⟩;obtain⟨f,hf,rfl⟩:=bP.1 c;have:=a.f f hf;cases f;exact this
structure abp (env:List IF) (vs:List S) (t:Ty):Prop where
 le:Ty.le 4294967295 t
 mi:∀u∈t.all,u.mi
 nodes:qw env vs t=0
 sz:t.size<=4294967295
def xg{env:List IF}{m n:S}(h:(di env m n).2.2=0):∃i∈env,(di env m n).1∈i.types:=by
 unfold di at h ⊢;have a:=vn (env:=env) 65 m n;cases b:gg env 65 m n with
 |uF m' n' x=>obtain⟨i,h1,J⟩:=a.1 m' n' x b;exact⟨i,eb h1,eb J⟩
 |_=>rw[b]at h;cases h
end
structure Ty.rR (u:Ty):Prop where
 a:u.k=5\/u.k=8->u.ar.length=1
 r:u.k=6\/u.k=7->u.ar.length=0/\∀f∈u.fl,f.b=false
 nd:(u.fl.map Fe.s).Nodup
 k:0<=u.k/\u.k<=10
def D8:∀{l:List S},yF l=0->l.Pairwise λa b=>slt a b=true
 |[],_=>.nil
 |[a],_=>yS
 |a::b::l,h=>by
  rw[yF]at h;by_cases h1:a=b
  ·rw[if_pos h1]at h;cases h
  ·rw[if_neg h1]at h;by_cases J:slt b a=true
   ·rw[if_pos J]at h;cases h
   ·rw[if_neg J]at h;have e:=D8 h
    have c:slt a b=true:=by
     cases f:slt a b with
     |true=>rfl
     |false=>exact absurd (o5 f (yU J)) h1
    refine fD.2 ⟨λx d=>?_,e⟩;rcases bN.1 d with rfl|d
    ·exact c
    ·exact oh c ((fD.1 e).1 x d)
def Iy{l:List S}(h:l.Pairwise λa b=>slt a b=true):l.Nodup:=rY (λ{a b} h e=>by subst e;rw[iA]at h;cases h) h
def He{u:Ty}(h:CU u=0):u.rR:=by
 unfold CU at h;cases hs:eA u with
 |false=>rw[hs]at h;simp at h
 |true=>
  rw[hs,if_neg yD]at h;split at h
  ·cases h
  ·split at h
   ·cases h
   ·split at h
    ·cases h
    ·refine⟨λhk=>?_,λhk=>?_,Iy (D8 h),?_⟩
     ·unfold eA at hs;split at hs
      ·cases hs
      ·rcases hk with hk|hk<;>(rw[hk]at hs;simp at hs;omega)
     ·unfold eA at hs;split at hs
      ·cases hs
      ·rename_i hb;have a:∀f∈u.fl,f.b=false:=by rcases hk with hk|hk<;>(rw[hk]at hb;simpa using hb)
       refine⟨?_,a⟩;rcases hk with hk|hk<;>(rw[hk]at hs;simp at hs;simp[hs])
     ·unfold eA at hs;repeat' split at hs
      all_goals first|(cases hs;done)|omega
def G3{env:List IF}{vs:List S}{t:Ty}(h:tk env vs t=0):∀u∈t.all,u.rR:=by
 have h1:=(CM.1 h).1;unfold Mg at h1;split at h1
 ·cases h1
 ·intro u hu;exact He (qF.1 h1 _ (bP.2 ⟨u,hu,rfl⟩))
def J0:∀u∈Ty.zero.all,u.rR:=by
 intro u hu;have:u=Ty.zero:=by simpa[Ty.zero,Ty.all,Ty.uo,Ty.uq]using hu
 subst this;exact⟨by simp[Ty.zero,Ty.k],by simp[Ty.zero,Ty.k],by simp[Ty.zero,Ty.fl],by simp[Ty.zero,Ty.k]⟩
def CH:∀u∈Ty.zero.all,u.mi:=by
 intro u hu;have:u=Ty.zero:=by simpa[Ty.zero,Ty.all,Ty.uo,Ty.uq]using hu
 subst this;exact⟨by simp[Ty.zero,Ty.m],by simp[Ty.zero,Ty.n],by simp[Ty.zero,Ty.fl]⟩
def NM{ns:List S}{ts:List Ty}(b:∀u∈ts,∀v∈u.all,v.rR){t:Ty}(h:∀v∈t.all,v.rR):∀v∈(t.sub ns ts).all,v.rR:=by
 refine BA (P:=Ty.rR) b (λv a d=>?_) t h;rw[jD d];have e1:((v.fl.map (Fe.sub ns ts)).map Fe.s)=v.fl.map Fe.s:=by rw[ia];refine gw λf _=>?_;cases f;rfl
 refine⟨λhk=>?_,λhk=>⟨?_,λf hf=>?_⟩,?_,a.k⟩
 ·have:=a.a hk;simpa[Ty.ar]using this
 ·have:=(a.r hk).1;simpa[Ty.ar]using this
 ·obtain⟨g,c,rfl⟩:=bP.1 hf;have:=(a.r hk).2 g c;cases g;exact this
 ·show ((v.fl.map (Fe.sub ns ts)).map Fe.s).Nodup;rw[e1];exact a.nd
structure Ct (t:Ty):Prop where
 le:Ty.le 4294967295 t
 mi:∀u∈t.all,u.mi
 rR:∀u∈t.all,u.rR
structure Bh (env:List IF) (ctx:List Pm) (C:List Ty):Prop where
 len:C.length<=120
 ct:∀t∈C,Ct t
 sz:∀t∈C,t.size<=200
 er:∀t∈C,∀u∈t.er,u∈C
 gh:∀t∈C,(cQ env t).2.2=0->(cQ env t).1∈C/\(cQ env t).2.1∈C
 ctx:∀p∈ctx,p.bound∈C
def Gi{l:List Fe}{s:S}{f:Fe}(h:dD l s=some f):f∈l/\f.s=s:=by unfold dD at h;exact⟨eb h,by simpa using List.find?_some h⟩
def rz{sw:Bool}{k:List Fe}:∀{l:List Fe}{r:List Jm},eg sw k l=some r->∀j∈r,∃f∈l,∃g∈k,g.s=f.s/\j=if sw then(g.t,f.t)else(f.t,g.t)
 |[],r,h,j,e=>by rw[eg]at h;cases h;simp at e
 |f::l,r,h,j,e=>by
  rw[eg]at h;split at h
  ·cases h
  ·rename_i g o;split at h
   ·cases h
   ·cases i:eg sw k l with
    |none=>rw[i]at h;cases h
    |some q=>
     rw[i]at h;simp only[cr,cz]at h;subst h;obtain⟨m,n⟩:=Gi o;rcases bN.1 e with rfl|e
     ·exact⟨f,yS,g,m,n,rfl⟩
     ·obtain⟨f',a,p,b,c,d⟩:=rz i j e;exact⟨f',by simp[a],p,b,c,d⟩
def Ez:∀{ps:List Pm}{xs ys:List Ty}{j:Jm},j∈mV ps xs ys->(j.1∈xs/\j.2∈ys)\/(j.1∈ys/\j.2∈xs)
 |[],xs,ys,j,h=>by simp[mV]at h
 |p::ps,[],ys,j,h=>by simp[mV]at h
 |p::ps,a::xs,[],j,h=>by simp[mV]at h
 |p::ps,a::xs,b::ys,j,h=>by
  rw[mV]at h;rcases bG.1 h with h|h
  ·rcases bG.1 h with h|h
   ·split at h
    ·simp at h;subst h;exact .inl ⟨yS,yS⟩
    ·simp at h
   ·split at h
    ·simp at h;subst h;exact .inr ⟨yS,yS⟩
    ·simp at h
  ·rcases Ez h with⟨h1,J⟩|⟨h1,J⟩
   ·exact .inl ⟨by simp[h1],by simp[J]⟩
   ·exact .inr ⟨by simp[h1],by simp[J]⟩
def LH{l:List Ty}(h:l.length=1):rI l∈l:=by
 match l,h with
 |[a],_=>simp[rI]
def nW{t u:Ty}(h:u∈t.ar):u∈t.er:=dF _ h
def LU{t:Ty}{f:Fe}(h:f∈t.fl):f.t∈t.er:=dI _ (bP.2 ⟨f,h,rfl⟩)
def Bh.closed{env:List IF}{ctx:List Pm}{C:List Ty}(h:Bh env ctx C):GQ C (lF env ctx):=by
 intro s hs t d r l hl j c;have k:s.k=5\/s.k=8->rI s.ar∈C:=λhk=>h.er s hs _ (nW (LH (((h.ct s hs).rR s (gy s)).a hk)));have i:t.k=5\/t.k=8->rI t.ar∈C:=λhk=>h.er t d _ (nW (LH (((h.ct t d).rR t (gy t)).a hk)));have fs:∀f∈s.fl,f.t∈C:=λf hf=>h.er s hs _ (LU hf);have w:∀f∈t.fl,f.t∈C:=λf hf=>h.er t d _ (LU hf);unfold lF at hl;by_cases h1:r=1
 ·rw[if_pos h1,xR]at hl;split at hl
  ·cases hl;simp at c
  ·cases hl
 rw[if_neg h1]at hl;by_cases J:r=2
 ·rw[if_pos J,jZ]at hl;by_cases hk:s.k≠t.k
  ·rw[if_pos hk]at hl;cases hl
  rw[if_neg hk]at hl;have hk:s.k=t.k:=yU hk;by_cases n:s.k=5
  ·rw[if_pos n]at hl;cases hl;simp at c;subst c;exact⟨k (.inl n),i (.inl (hk▸n))⟩
  rw[if_neg n]at hl;by_cases x:s.k=6
  ·rw[if_pos x]at hl;obtain⟨f,hf,g,m,_,rfl⟩:=rz hl j c;exact⟨fs g m,w f hf⟩
  rw[if_neg x]at hl;by_cases y:s.k=7
  ·rw[if_pos y]at hl;obtain⟨f,hf,g,m,_,rfl⟩:=rz hl j c;exact⟨fs f hf,w g m⟩
  rw[if_neg y]at hl;by_cases o:s.k=8
  ·rw[if_pos o]at hl;split at hl
   ·cases v:eg false s.fl t.fl with
    |none=>rw[v]at hl;cases hl
    |some q=>
     rw[v]at hl;simp only[cr,cz]at hl;subst hl;rcases bG.1 c with c|c
     ·obtain⟨f,hf,g,m,_,rfl⟩:=rz v j c;exact⟨w f hf,fs g m⟩
     ·simp at c;subst c;exact⟨k (.inr o),i (.inr (hk▸o))⟩
   ·cases hl
  ·rw[if_neg o]at hl;cases hl
 rw[if_neg J]at hl;by_cases h3:r=3
 ·rw[if_pos h3,kL]at hl;split at hl
  ·cases hl
  ·split at hl
   ·cases hl
   ·cases hl;rcases Ez c with⟨a,b⟩|⟨a,b⟩
    ·exact⟨h.er s hs _ (nW a),h.er t d _ (nW b)⟩
    ·exact⟨h.er t d _ (nW a),h.er s hs _ (nW b)⟩
 rw[if_neg h3]at hl;by_cases h4:r=4
 ·rw[if_pos h4,tK]at hl;cases hb:jB env ctx s with
  |none=>rw[hb]at hl;cases hl
  |some u=>
   rw[hb]at hl;cases hl;simp at c;subst c;refine⟨?_,d⟩;unfold jB at hb;split at hb
   ·split at hb
    ·rename_i e;cases hb;exact(h.gh s hs e).2
    ·cases hb
   ·split at hb
    ·cases hf:ctx.find? λp=>p.name==s.n with
     |none=>rw[hf]at hb;cases hb
     |some p=>rw[hf]at hb;cases hb;exact h.ctx p (eb hf)
    ·cases hb
 ·rw[if_neg h4,xQ]at hl;split at hl
  ·rename_i e;cases hl;simp at c;subst c;exact⟨hs,(h.gh t d e).1⟩
  ·cases hl
structure JA (env:List IF) (l C:List Ty):Prop where
 len:C.length<=120
 sz:∀t∈C,t.size<=200
 init:∀t∈l,t∈C
 er:∀t∈C,∀u∈t.er,u∈C
 gh:∀t∈C,(cQ env t).2.2=0->(cQ env t).1∈C/\(cQ env t).2.1∈C
def Ct.part{t u:Ty}(h:Ct t)(hu:u∈t.er):Ct u:=⟨ie h.le u hu,λv a=>h.mi v (jL hu a),λv a=>h.rR v (jL hu a)⟩
def Ct.sub{ns:List S}{ts:List Ty}{y:Ty}(a:∀u∈ts,Ct u)(h:Ct y):Ct (y.sub ns ts):=⟨sub_le (λu hu=>(a u hu).le) y h.le,NN (λu hu=>(a u hu).mi) h.mi,NM (λu hu=>(a u hu).rR) h.rR⟩
def Ct.zero:Ct Ty.zero:=⟨oc,CH,J0⟩
def Ct.ty{env:List IF}(d:wj env)(eO:∀i∈env,i.fit){i:IF}(b:i∈env){x:TE}(c:x∈i.types):Ct x.lower/\Ct x.upper:=by have a:=(eO i b).t x c;obtain⟨e,f,_⟩:=xh ((d.ok i b).t x c);exact⟨⟨a.lo.le,a.lo.mi,G3 e⟩,⟨a.up.le,a.up.mi,G3 f⟩⟩
def Ct.gh{env:List IF}(d:wj env)(eO:∀i∈env,i.fit){t:Ty}(e:Ct t):Ct (cQ env t).1/\Ct (cQ env t).2.1:=by
 unfold cQ;split
 ·exact⟨Ct.zero,Ct.zero⟩
 ·split
  ·exact⟨Ct.zero,Ct.zero⟩
  ·rename_i h1;split
   ·exact⟨Ct.zero,Ct.zero⟩
   ·obtain⟨i,f,g⟩:=xg (yU h1);obtain⟨a,b⟩:=Ct.ty d eO f g;have c:∀u∈t.ar,Ct u:=λu hu=>e.part (nW hu);exact⟨Ct.sub c a,Ct.sub c b⟩
open Classical in
def JA.clo{env:List IF}{ctx:List Pm}{l C:List Ty}(h:JA env l C)(m:wj env)(eO:∀i∈env,i.fit){k:List Ty}(hk:∀t∈k,t∈l/\Ct t)(hc:∀p∈ctx,p.bound∈k):∃j,Bh env ctx j/\∀t∈k,t∈j:=by
 refine⟨C.filter λt=>decide (Ct t),?_,λt f=>kH.2 ⟨h.init t (hk t f).1,by simpa using(hk t f).2⟩⟩;have g:∀t,t∈C.filter (λt=>decide (Ct t))↔t∈C/\Ct t:=λt=>by rw[kH];simp
 refine⟨bQ (lO _ _) h.len,λt f=>((g t).1 f).2,λt f=>h.sz t ((g t).1 f).1,λt f u hu=>?_,λt f e=>?_,λp n=>?_⟩
 ·obtain⟨a,b⟩:=(g t).1 f;exact(g u).2 ⟨h.er t a u hu,b.part hu⟩
 ·obtain⟨a,b⟩:=(g t).1 f;obtain⟨c,d⟩:=h.gh t a e;obtain⟨x,y⟩:=Ct.gh m eO b;exact⟨(g _).2 ⟨c,x⟩,(g _).2 ⟨d,y⟩⟩
 ·obtain⟨a,b⟩:=hk _ (hc p n);exact(g _).2 ⟨h.init _ a,b⟩
end Go.VC
namespace Go.VC.cG
open Go Go.VC Go.Proofs
def Zz{l m:List Ty}{d e:D}{K:PV->List Ob->Prop}(g:d=bA cq l)(he:e=bA cq m)(hl:l.length<4294967296)
 (E:∀x∈l,∀(y:Ty)(z:Int)(c1 c2:S)(u t:D)(d0:Int)(s d2:S)(q w:D),cD x z c1 c2 u t->cD y d0 s d2 q w->∀(r:PV->List Ob->Prop),(∀b,b=same x y->r (.bool b) [])->FT 62 [] [dO z c1 c2 u t,dO d0 s d2 q w] r)
 (h:∀b,b=same l m->K (.bool b) []):FT 124 [] [.lst 29 d,.lst 29 e] K:=by
 refine en XP Tryz.func124 λA C L X=>?_;obtain⟨n,v⟩:∃n,n=l.length:=⟨_,rfl⟩;have a:Std.len d=bk n:=by rw[g,da,v];rfl
 obtain⟨H,k⟩:∃n,n=m.length:=⟨_,rfl⟩;have c:Std.len e=bk H:=by rw[he,da,k];rfl
 refine p2 (λJ=>?_) (λJ=>?_)
 ·refine h _ ?_;rw[tC];obtain rfl:=X.a;simp only[a,c,SD]at J;omega
 have F:m.length=n:=by obtain rfl:=X.a;simp only[a,c,SD]at J;omega
 refine lu X (λi=>i<=n/\l.take i=m.take i) (λi=>n-i) 0 ⟨bB _,yS⟩ (λ(i:Nat)=>[(5,.int .i64 i)]) ?_;rintro i ⟨I,ha⟩;cbv;constructor<;>intro h1
 ·have h5:i<l.length:=lY X.a a h1;have h6:i<m.length:=yO;have B:=gT X.a g h5;have G:=gT X.a he h6;have p:=iX X.a g h5;have o:=iX X.a he h6;cbv;refine⟨λ_=>by kernel_rfl,p,o,?_⟩;refine X.call (E _ (bu h5) _ _ _ _ _ _ _ _ _ _ _ B G _ λb hb=>?_);have f:b=same l[i] m[i]:=hb;clear hb;cbv;repeat' (first|apply bq|exact zf|(intro J;cbv)|apply bE)
  ·refine h _ ?_;have:same l[i] m[i]=false:=by rw[<- f];obtain rfl:=X.a;simpa only[SD]using J
   exact(tD h5 h6 λe=>by rw[e,jW]at this;cases this).symm
  ·obtain rfl:=X.a;simp only[a,SD]at *;omega
  ·have j:same l[i] m[i]=true:=by rw[<- f];obtain rfl:=X.a;simpa only[SD,dL]using J
   refine⟨i+1,⟨by omega,by rw[cb h5,cb h6,ha,fX.1 j]⟩,by omega,?_⟩;exact yc
 ·have h5:i=n:=gY X.a a h1;subst h5;refine h _ ?_;rw[IE yO (by rw[<- v];exact ha)]
def F62:∀(t:Ty),Ty.le 4294967295 t->∀{u:Ty}{s:Int}{c1 c2:S}{p r:D}{d0:Int}{o d2:S}{n q:D}{K:PV->List Ob->Prop},cD t s c1 c2 p r->cD u d0 o d2 n q->(∀b,b=same t u->K (.bool b) [])->FT 62 [] [dO s c1 c2 p r,dO d0 o d2 n q] K:=by
 refine Ty.parts λt B z=>?_;intro g u s c1 c2 p r d0 o d2 n q K ht hu h;obtain⟨T,U,N,W,f⟩:=ht;obtain⟨Q,R,P,he,j⟩:=hu;have ae:=q9 g;have ac:=wB g;refine en g62 Tryz.func62 λA C L X=>?_;obtain⟨d,l,a⟩:=lenOf f;obtain⟨O,w,c⟩:=lenOf j;cbv;repeat' (first|apply bq|exact zf|(intro J;cbv)|apply bE)
 ·refine h _ ?_;rw[Am (tC _)];obtain rfl:=X.a;simp only[a,c,SD]at J;omega
 rotate_left
 ·refine h _ ?_;rw[IB];rw[<- N,<-P];obtain rfl:=X.a;simpa only[SD]using J
 ·refine h _ ?_;rw[IC];rw[<- U,<-R];obtain rfl:=X.a;simpa only[SD]using J
 ·refine h _ ?_;rw[ID];rw[<- T,<-Q];obtain rfl:=X.a;simpa only[SD]using J
 rename_i g0 g1 g2;have e0:t.k=u.k:=by rw[<- T,<-Q];obtain rfl:=X.a;simpa only[SD]using g0
 have e1:t.m=u.m:=by rw[<- U,<-R];obtain rfl:=X.a;simpa only[SD]using g1
 have e2:t.n=u.n:=by rw[<- N,<-P];obtain rfl:=X.a;simpa only[SD]using g2
 have ad:u.fl.length=d:=by obtain rfl:=X.a;simp only[a,c,SD]at J;omega
 refine lu X (λi=>i<=d/\t.fl.take i=u.fl.take i) (λi=>d-i) 0 ⟨bB _,yS⟩ (λ(i:Nat)=>[(5,.int .i64 i)]) ?_;rintro i ⟨hi,ha⟩;cbv;constructor<;>intro h1
 ·have h5:i<t.fl.length:=lY X.a a h1;have h6:i<u.fl.length:=yO;have v:=jS X.a f h5;have H:=jS X.a j h6;have l1:=zK X.a f h5;have l2:=zK X.a j h6;have M:=iX X.a f h5;have I:=iX X.a j h6;have k:t.fl[i]≠u.fl[i]->same t u=false:=λe=>Am (tD h5 h6 e);cbv;repeat' (first|apply bq|exact zf|(intro J;cbv)|apply bE)
  any_goals exact M
  any_goals exact I
  ·have hs:t.fl[i].s=u.fl[i].s:=by rw[<- l1.1,<-l2.1];rename_i g3;obtain rfl:=X.a;simpa only[SD,dL]using g3
   have G:t.fl[i].b=u.fl[i].b:=by rw[<- l1.2,<-l2.2];obtain rfl:=X.a;simpa only[SD,dL]using J
   refine X.call (z _ (bu h5) (sB g _ (bu h5)) v H λb hb=>?_);have m:b=same t.fl[i].t u.fl[i].t:=hb;clear hb;cbv;repeat' (first|apply bq|exact zf|(intro J;cbv)|apply bE)
   ·refine h _ ?_;have:same t.fl[i].t u.fl[i].t=false:=by rw[<- m];obtain rfl:=X.a;simpa only[SD]using J
    exact(k λe=>by rw[e,jW]at this;cases this).symm
   ·obtain rfl:=X.a;simp only[a,SD]at *;omega
   ·have E:same t.fl[i].t u.fl[i].t=true:=by rw[<- m];obtain rfl:=X.a;simpa only[SD,dL]using J
    refine⟨i+1,⟨by omega,by rw[cb h5,cb h6,ha,Fe.ext hs (fX.1 E) G]⟩,by omega,?_⟩;exact yc
  ·refine h _ ?_;refine(k λe=>?_).symm;rw[e]at l1;refine absurd (l1.2.trans l2.2.symm) ?_;obtain rfl:=X.a;simpa only[SD]using J
  ·refine h _ ?_;refine(k λe=>?_).symm;rw[e]at l1;refine absurd (l1.1.trans l2.1.symm) ?_;obtain rfl:=X.a;simpa only[SD]using J
 ·have h5:i=d:=gY X.a a h1;subst h5;have F:t.fl=u.fl:=uG yO (by rw[<- l];exact ha);cbv;refine X.call (Zz W he yO (λx V y s c1 c2 p r d0 o d2 n q v H K' hK=>B x V (qd g x V) v H hK) λb hb=>?_);cbv;refine h _ ?_;rw[hb,NY e0 e1 e2 F]
end Go.VC.cG
namespace Go.VC
def Fe.zero:Fe:=.mk [] Ty.zero false
def eB(j:Jm):List D:=cq j.1++cq j.2
end Go.VC
namespace Go.VC.cG
open Go Go.VC Go.Proofs
end Go.VC.cG
namespace Go.VC
section
variable {X:Option (List Jm)}{sw:Bool}{c l:List Fe}{f g:Fe}{r:D}
def j5{s t:Ty}{e:Int}{a1 a2:S}{a3 a4:D}{b:Int}{b1 b2:S}{a d:D}(ha:cD s e a1 a2 a3 a4)(hb:cD t b b1 b2 a d):
 [D.int e,.str a1,.str a2,a3,a4,.int b,.str b1,.str b2,a,d]=eB (s,t):=by
 obtain⟨rfl,rfl,rfl,rfl,rfl⟩:=ha;obtain⟨rfl,rfl,rfl,rfl,rfl⟩:=hb;unfold eB;rw[dk,dk];rfl
def qB{l:List Ty}(h:0<l.length):rI l=l[0]:=by
 match l,h with
 |a::_,_=>rfl
def JR(s t:Ty):Option (List Jm):=if DG s.fl t.fl then(eg false s.fl t.fl).map (· ++[(rI s.ar,rI t.ar)])else none
def me(X:Option (List Jm))(r:D)(b:Bool):Prop:=b=X.isSome/\∀l,X=some l->r=bA eB l
def me.no(h:X=none):me X r false:=by subst h;exact⟨rfl,λl e=>yC e⟩
def me.yes{l:List Jm}(h:X=some l)(hr:r=bA eB l):me X r true:=by subst h;exact⟨rfl,λl e=>by cases e;exact hr⟩
def ov(h:dD c f.s=none):eg sw c (f::l)=none:=by rw[eg,h]
def kO(h:dD c f.s=some g)(hb:(f.b&& !g.b)=true):eg sw c (f::l)=none:=by rw[eg,h];simp only;rw[if_pos hb]
def ow(h:dD c f.s=some g)(hb:(f.b&& !g.b)=false):eg sw c (f::l)=(eg sw c l).map ((if sw then(g.t,f.t)else(f.t,g.t)):: ·):=by rw[eg,h];simp only;rw[if_neg (by rw[hb];decide)]
def oB{a:List Jm}{j:Jm}:(X.map (j:: ·)).map (a++ ·)=X.map (a++[j]++ ·):=by cases X<;>simp
def HJ{s t:List Fe}{k:Nat}(h:k<s.length)(hf:((dD t s[k].s).isSome||s[k].b)=false):DG s t=false:=all_false h hf
end
end Go.VC
namespace Go.VC.cG
open Go Go.VC Go.Proofs
end Go.VC.cG
namespace Go.VC
section
variable {s t:Ty}
def Hv(h:s.k≠t.k):jZ s t=none:=by unfold jZ;rw[if_pos h]
def Hz(h:s.k=t.k)(h5:s.k=5):jZ s t=some [(rI s.ar,rI t.ar)]:=by unfold jZ;rw[if_neg (yU h),if_pos h5]
def Hw(h:s.k=t.k)(h8:s.k=8):jZ s t=JR s t:=by unfold jZ JR;rw[if_neg (yU h),if_neg yO,if_neg yO,if_neg yO,if_pos h8]
def Hu(h5:s.k≠5)(h6:s.k≠6)(h7:s.k≠7)(h8:s.k≠8):jZ s t=none:=by
 unfold jZ;by_cases hk:s.k≠t.k
 ·rw[if_pos hk]
 ·rw[if_neg hk,if_neg h5,if_neg h6,if_neg h7,if_neg h8]
end
end Go.VC
namespace Go.VC.cG
open Go Go.VC Go.Proofs
end Go.VC.cG
namespace Go.VC
section
variable {ps:List Pm}{xs ys:List Ty}
def EW(v:Int)(a b:Ty):List Jm:=(if v≠1 then [(a,b)]else [])++(if v≠0 then [(b,a)]else [])
def O4{k:Nat}(h1:k<ps.length)(J:k<xs.length)(h3:k<ys.length):
 mV (ps.drop k) (xs.drop k) (ys.drop k)=EW ps[k].var xs[k] ys[k]++mV (ps.drop (k+1)) (xs.drop (k+1)) (ys.drop (k+1)):=by
 rw[bF h1,bF J,bF h3,mV];rfl
def NG(v:Int)(a b:Ty):(EW v a b).length<=2:=by unfold EW;split<;>split<;>simp
def My(h:ps.length=0):mV ps xs ys=[]:=by have:ps=[]:=bY h;subst this;rfl
def Du{env:List IF}{s t:Ty}(hk:¬(s.k≠10\/t.k≠10)){r0 c b d:S}{r2 e f:Int}(hr:(r0,c,r2)=ff env s.m s.n)(g:(b,d,e)=ff env t.m t.n)(h:f=(di env s.m s.n).2.2)(a:ps=(di env s.m s.n).1.params):
 kL env s t=if r2≠0\/e≠0\/f≠0\/r0≠b\/c≠d\/s.ar.length≠ps.length\/t.ar.length≠ps.length then none else some (mV ps s.ar t.ar):=by
 unfold kL;rw[if_neg hk,<-hr,<-g,<-h,<-a]
end
end Go.VC
namespace Go.VC.cG
open Go Go.VC Go.Proofs
def OD{A:pM}{d:D}{l:List Jm}{i:Nat}(ha:A=Std)(a:d=bA eB l)(h:i<l.length):cD l[i].1 (A.asInt (A.cell d (bk i) 0)) (A.bH (A.cell d (bk i) 1)) (A.bH (A.cell d (bk i) 2)) (A.cell d (bk i) 3) (A.cell d (bk i) 4)/\
 cD l[i].2 (A.asInt (A.cell d (bk i) 5)) (A.bH (A.cell d (bk i) 6)) (A.bH (A.cell d (bk i) 7)) (A.cell d (bk i) 8) (A.cell d (bk i) 9):=by
 subst ha a;rw[dN h,dN h,dN h,dN h,dN h,dN h,dN h,dN h,dN h,dN h];unfold eB;rw[dk,dk];exact⟨⟨rfl,rfl,rfl,rfl,rfl⟩,⟨rfl,rfl,rfl,rfl,rfl⟩⟩
end Go.VC.cG
namespace Go.VC
def me.p1{s t:Ty}{b:Bool}{r:D}(hr:r= .list [])(hb:b=(s.k==1||t.k==0||(s.k==t.k&&(s.k==2||s.k==3||s.k==4))||(s.k==9&&t.k==9&&s.n==t.n))):me (xR s t) r b:=by
 unfold xR;subst hb;by_cases h:s.k=1\/t.k=0\/(s.k=t.k/\(s.k=2\/s.k=3\/s.k=4))\/(s.k=9/\t.k=9/\s.n=t.n)
 ·rw[if_pos h];refine⟨?_,λl e=>by cases e;rw[hr];rfl⟩;rw[Option.isSome_some,cM];simp only[fU,bw,beq_iff_eq,iff_true];rcases h with h|h|⟨h,a|a|a⟩|⟨h,a,d⟩
  ·exact .inl (.inl (.inl h))
  ·exact .inl (.inl (.inr h))
  ·exact .inl (.inr ⟨h,.inl (.inl a)⟩)
  ·exact .inl (.inr ⟨h,.inl (.inr a)⟩)
  ·exact .inl (.inr ⟨h,.inr a⟩)
  ·exact .inr ⟨⟨h,a⟩,d⟩
 ·rw[if_neg h];refine⟨?_,λl e=>yC e⟩;rw[nH,Bool.eq_false_iff];intro e;simp only[fU,bw,beq_iff_eq]at e;apply h;rcases e with((e|e)|⟨e,(e'|e')|e'⟩)|⟨⟨e,e'⟩,c⟩
  ·exact .inl e
  ·exact .inr (.inl e)
  ·exact .inr (.inr (.inl ⟨e,.inl e'⟩))
  ·exact .inr (.inr (.inl ⟨e,.inr (.inl e')⟩))
  ·exact .inr (.inr (.inl ⟨e,.inr (.inr e')⟩))
  ·exact .inr (.inr (.inr ⟨e,e',c⟩))
end Go.VC
namespace Go.VC.cG
open Go Go.VC Go.Proofs
def Ug:ea:={tt:=tt,n:=69,iT:=XL.iT,own:=[10]}
def Py{env:List IF}{t:Ty}{d:D}{G:Int}{c1 c2:S}{B F:D}{K:PV->List Ob->Prop}(N:d=bA dC env)(hl:eH env)(p:Ty.le 4294967295 t)(T:cD t G c1 c2 B F)
 (h:∀q e1 e2 e3 s g0 g1 g2 g3 g4 r,cD (cQ env t).1 q e1 e2 e3 s->cD (cQ env t).2.1 g0 g1 g2 g3 g4->r=(cQ env t).2.2->K (.tup [dO q e1 e2 e3 s,dO g0 g1 g2 g3 g4,.int .i64 r]) []):
 FT 136 [] [.lst 97 d,dO G c1 c2 B F] K:=by
 obtain⟨t0,t1,O,f,ad⟩:=T;have af:=q9 p;have o:=qd p;have l:=CS hl (m:=t.m) (n:=t.n);unfold cQ at h;rw[<- t0]at h;rw[<- t1,<-O]at h l;obtain⟨R,M⟩:∃R,R=di env c1 c2:=⟨_,rfl⟩;rw[<- M]at h l;have aj:=l.np;refine en Ug Tryz.func136 λA C L X=>?_;obtain⟨I,z,b⟩:=lenOf f;refine p2 (λJ=>?_) (λJ=>?_)
 ·rw[if_pos (by obtain rfl:=X.a;simp only[SD]at J;exact J)]at h;exact h _ _ _ _ _ _ _ _ _ _ _ ⟨rfl,rfl,rfl,rfl,rfl⟩ ⟨rfl,rfl,rfl,rfl,rfl⟩ rfl
 rw[if_neg (by obtain rfl:=X.a;simp only[SD]at J;simp[J])]at h;clear J;refine X.call (SP N hl λq e1 e2 e3 s P W Q e8 V w u r1 r2 he E g=>?_);rw[<- M]at he E g;rw[<- g]at h;obtain⟨a0,a1,v,x⟩:=he;obtain⟨c,e,a⟩:=lenOf a1;cbv;repeat' (first|apply bq|exact zf|(intro J;cbv)|apply bE)
 ·rename_i g0 g1;rw[if_neg (by obtain rfl:=X.a;simp only[SD]at g0;simp[g0]),if_pos (by obtain rfl:=X.a;simp only[b,a,SD]at g1;omega)]at h;exact h _ _ _ _ _ _ _ _ _ _ _ ⟨rfl,rfl,rfl,rfl,rfl⟩ ⟨rfl,rfl,rfl,rfl,rfl⟩ rfl
 ·exfalso;obtain rfl:=X.a;simp[gq,fA]at J
 ·exfalso;rename_i g0 g1;obtain rfl:=X.a;simp only[SD]at g0 J;omega
 rotate_left
 ·rename_i g0;rw[if_pos (by obtain rfl:=X.a;simp only[SD]at g0;omega)]at h;exact h _ _ _ _ _ _ _ _ _ _ _ ⟨rfl,rfl,rfl,rfl,rfl⟩ ⟨rfl,rfl,rfl,rfl,rfl⟩ rfl
 ·exfalso;rename_i g0;obtain rfl:=X.a;simp only[SD]at g0 J;omega
 rename_i g0 g1;have j:t.ar.length=R.1.params.length:=by obtain rfl:=X.a;simp only[b,a,SD]at g1;omega
 rw[if_neg (by obtain rfl:=X.a;simp only[SD]at g0;simp[g0]),if_neg (by simp[j])]at h;clear g0 g1 J;refine lP X (λy=>y.1<=c/\y.2=bA encS ((R.1.params.take y.1).map (·.name))) (λy=>c-y.1) (0,.list []) ⟨bB _,rfl⟩ [0,1,2,3,4] (λ(y:Nat×D)=>⟨[(47,.int .i64 y.1),(46,.int .i64 (A.len e1)),(45,.lst 73 e1),(10,.row 9 4),(3,.box 0 0),(4,.box 1 0),(5,.box 2 0),(7,.box 3 0)],[.box [.int .i64 G,.str c1,.str c2,.lst 29 B,.lst 57 F],.box [.undef,.undef,.undef,.undef,.undef],.box [.undef,.undef,.undef,.undef,.undef],.box [.str q,.lst 73 e1,.int .i64 e2,.str e3,.str s,.lst 29 P,.lst 57 W,.int .i64 Q,.str e8,.str V,.lst 29 w,.lst 57 u],.row 9 y.2 true]⟩) ?_;rintro⟨i,r⟩ ⟨hi,hr⟩;simp only at hi hr;cbv;constructor<;>intro h1
 ·have h5:i<R.1.params.length:=lY X.a a h1;have H:=(Dv X.a a1 h5).1;have ai:=iX X.a a1 h5;have ae:=jX X.a h5;have hb:A.gh (A.add (A.len r) (A.len (A.lit [[.str (A.bH (A.cell e1 (bk i) 0))]]))) 4294967296:=by rw[X.a,hr];simp only[SD,bL];omega
  have q1:A.app r (A.lit [[.str (A.bH (A.cell e1 (bk i) 0))]])=bA encS ((R.1.params.take (i+1)).map (·.name)):=by rw[H,X.a,hr,map_take h5];exact cB (k:=[R.1.params[i].name])
  refine p1 ?_;exact⟨(i+1,A.app r (A.lit [[.str (A.bH (A.cell e1 (bk i) 0))]])),⟨yP,q1⟩,yP,[0,1,2,3,4],rfl,yc⟩
 have h5:i=c:=gY X.a a h1;subst h5;rw[e,bD]at hr;refine p1 ?_;refine X.call (VQ hr f (by simpa using(by omega:R.1.params.length<4294967296)) yO o _ l.lo v λg0 g1 g2 g3 g4 U=>?_);refine p1 ?_;refine X.call (VQ hr f (by simpa using(by omega:R.1.params.length<4294967296)) yO o _ l.up x λk0 H k2 k3 k4 hk=>?_);refine p1 ?_;exact h _ _ _ _ _ _ _ _ _ _ _ U hk rfl
end Go.VC.cG
namespace Go.VC
def ve{α:Type}{p:α->Bool}{l:List α}:(jA p l= -1/\l.find? p=none)\/∃(i:Nat) (h:i<l.length),jA p l=(i:Int)/\l.find? p=some l[i]:=by
 rcases kR p l with⟨h1,J⟩|⟨i,h,h1,J,h3⟩
 ·exact .inl ⟨h1,by rw[eN];intro x a;rw[J x a];decide⟩
 ·exact .inr ⟨i,h,h1,iD h J h3⟩
end Go.VC
namespace Go.VC.cG
open Go Go.VC Go.Proofs
section
variable {K:PV->List Ob->Prop}{d v u m j:D}{s w n f g c2:S}{o c1:Int}{l:List Fe}
def M5{l:List Pm}{p:Pm->Bool}(t:d=bA eU l)(hl:l.length<=4294967295)
 (G:∀x∈l,∀(f:S)(c1:Int)(c2:Int)(g:S)(j:S)(m:D)(z:D)(B:PV->List Ob->Prop),IT x f c1 c2 g j m z->(∀b,b=p x->B (.bool b) [])->FT 211 [] [KP f c1 c2 g j m z,.cP [.int .i64 o,.str w,.str n,.lst 29 v,.lst 57 u] 0] B)
 (h:∀r:Int,r=jA p l->K (.int .i64 r) []):
 FT 210 [] [.lst 73 d,.cy 211 [.cP [.int .i64 o,.str w,.str n,.lst 29 v,.lst 57 u] 0]] K:=by
 refine en (cf 19) Tryz.func210 λA C L X=>?_;obtain⟨c,q,a⟩:=lenOf t;cbv;refine lu X (λi=>i<=c/\∀x∈l.take i,p x=false) (λi=>c-i) 0 ⟨bB _,yS⟩ (λ(i:Nat)=>[(8,.int .i64 i)]) ?_;rintro i ⟨H,ha⟩;cbv;constructor<;>intro h1
 ·have h5:i<l.length:=lY X.a a h1;have E:=kh X.a t h5;have F:=iX X.a t h5;have y:=jX X.a h5;refine p1 ?_;refine X.call (G _ (bu h5) _ _ _ _ _ _ _ _ E λb hb=>?_);have k:b=p l[i]:=hb;clear hb;cbv;repeat' (first|apply bq|exact zf|(intro J;cbv)|apply bE)
  any_goals exact y
  ·refine h i ?_;exact(fp h5 ha (by rw[<- k];obtain rfl:=X.a;simpa only[SD]using J)).symm
  ·have hf:p l[i]=false:=by rename_i h3;rw[<- k];obtain rfl:=X.a;simpa only[SD,dL]using h3
   refine⟨i+1,⟨yO,?_⟩,yO,?_⟩
   ·rw[cb h5];intro x e;rcases bG.1 e with e|e
    ·exact ha x e
    ·simp at e;subst e;exact hf
   exact yc
 ·have h5:i=c:=gY X.a a h1;subst h5;cbv;refine h (-1) ?_;rw[q,bD]at ha;exact(fq ha).symm
def M9{p:Fe->Bool}(t:d=bA eZ l)(hl:l.length<=4294967295)
 (G:∀x∈l,∀(f:S)(c1:Int)(c2:S)(g:S)(j:D)(m:D)(z:Bool)(B:PV->List Ob->Prop),l9 x f c1 c2 g j m z->(∀b,b=p x->B (.bool b) [])->FT 209 [] [mO f c1 c2 g j m z,.cP [.str s] 0] B)
 (h:∀r:Int,r=jA p l->K (.int .i64 r) []):
 FT 208 [] [.lst 57 d,.cy 209 [.cP [.str s] 0]] K:=by
 refine en OJ Tryz.func208 λA C L X=>?_;obtain⟨c,q,a⟩:=lenOf t;cbv;refine lu X (λi=>i<=c/\∀x∈l.take i,p x=false) (λi=>c-i) 0 ⟨bB _,yS⟩ (λ(i:Nat)=>[(8,.int .i64 i)]) ?_;rintro i ⟨H,ha⟩;cbv;constructor<;>intro h1
 ·have h5:i<l.length:=lY X.a a h1;have E:=iR X.a t h5;have F:=iX X.a t h5;have y:=jX X.a h5;refine p1 ?_;refine X.call (G _ (bu h5) _ _ _ _ _ _ _ _ E λb hb=>?_);have k:b=p l[i]:=hb;clear hb;cbv;repeat' (first|apply bq|exact zf|(intro J;cbv)|apply bE)
  any_goals exact y
  ·refine h i ?_;exact(fp h5 ha (by rw[<- k];obtain rfl:=X.a;simpa only[SD]using J)).symm
  ·have hf:p l[i]=false:=by rename_i h3;rw[<- k];obtain rfl:=X.a;simpa only[SD,dL]using h3
   refine⟨i+1,⟨yO,?_⟩,yO,?_⟩
   ·rw[cb h5];intro x e;rcases bG.1 e with e|e
    ·exact ha x e
    ·simp at e;subst e;exact hf
   exact yc
 ·have h5:i=c:=gY X.a a h1;subst h5;cbv;refine h (-1) ?_;rw[q,bD]at ha;exact(fq ha).symm
def Y6{x:Pm}{c2:Int}{j:S}{a:D}(c:IT x f c1 c2 g j m a)(h:∀b,b=(x.name==n)->K (.bool b) []):
 FT 211 [] [KP f c1 c2 g j m a,.cP [.int .i64 o,.str w,.str n,.lst 29 v,.lst 57 u] 0] K:=by
 obtain⟨k,_⟩:=c;refine en (cf 9) Tryz.func211 λA C L X=>?_;have q:=h (A.seq f n) (by rw[X.a,<-k];rfl);cbv;exact q
def Y7{x:Fe}{a:Bool}(c:l9 x f c1 c2 g j m a)(h:∀b,b=(x.s==s)->K (.bool b) []):
 FT 209 [] [mO f c1 c2 g j m a,.cP [.str s] 0] K:=by
 obtain⟨k,_⟩:=c;refine en (cf 8) Tryz.func209 λA C L X=>?_;have q:=h (A.seq f s) (by rw[X.a,<-k];rfl);cbv;exact q
def Pv(k:d=bA eZ l)(hl:l.length<=4294967295){c:S}(hs:c=s)
 (h:∀F e1 e2 e3 I G H b,l9 ((dD l s).getD Fe.zero) F e1 e2 e3 I G H->b=(dD l s).isSome->K (.tup [mO F e1 e2 e3 I G H,.bool b]) []):
 FT 167 [] [.lst 57 d,.str c] K:=by
 subst hs;refine en (cf 17) Tryz.func167 λA C L X=>?_;have e:∀a b:Int,A.le a b=decide (a<=b):=by rw[X.a];exactλ_ _=>rfl
 cbv;refine X.call (M9 (p:=λx=>x.s==c) k hl (λx O f c1 c2 g j m N P t B=>Y7 t B) λr hr=>?_);have hr:r=jA (λx:Fe=>x.s==c) l:=hr;rcases ve (p:=λx:Fe=>x.s==c) (l:=l)with⟨e1,e2⟩|⟨i,M,e1,e2⟩
 ·have e2:dD l c=none:=e2;have z:A.le 0 r=false:=by rw[e,hr,e1];rfl
  have q:=h [] 0 [] [] (.list []) (.list []) false false (by rw[e2];exact⟨rfl,⟨rfl,rfl,rfl,rfl,rfl⟩,rfl⟩) (by rw[e2];rfl);cbv;repeat' (first|apply bq|exact zf|(intro J;first|exact yB z J|cbv)|apply bE)
  exact q
 ·have e2:dD l c=some l[i]:=e2;have E:r=bk i:=by rw[hr,e1];rfl
  subst E;have z:A.le 0 (bk i)=true:=by rw[e];simp only[bz];simp
  have y:=iX X.a k M;have q:=h _ _ _ _ _ _ _ true (by rw[e2];exact iR X.a k M) (by rw[e2];rfl);cbv;repeat' (first|apply bq|exact zf|(intro J;first|exact yB z J|cbv)|apply bE)
  all_goals first|exact y|exact q|skip
def Zg{env:List IF}{de:D}(he:de=bA dC env)(ek:eH env){ctx:List Pm}{dc:D}(hc:dc=bA eU ctx)(mZ:ctx.length<=4294967295){t:Ty}(N:Ty.le 4294967295 t){f:Int}{c1:S}{g:D}(R:cD t f c1 c2 g j)
 (h:∀G e1 e2 e3 M b,(b=true->cD ((jB env ctx t).getD Ty.zero) G e1 e2 e3 M)->b=(jB env ctx t).isSome->K (.tup [dO G e1 e2 e3 M,.bool b]) []):
 FT 169 [] [.lst 97 de,.lst 73 dc,dO f c1 c2 g j] K:=by
 have I:=R;obtain⟨V,t1,U,ab,W⟩:=I;unfold jB at h;rw[<- V,<-U]at h;refine en (cf 40) Tryz.func169 λA C L X=>?_;have Z:=qH X.a;have c:=I6 X.a;by_cases a:f=10
 ·have k:A.eq f 10=true:=by rw[Z,a];rfl
  have y:A.eq f 9=false:=by rw[Z,a];rfl
  rw[if_pos a]at h;cbv;repeat' (first|apply bq|exact zf|(intro J;first|exact yB y J|exact yB k J|cbv)|apply bE|(refine X.call (Py he ek N R λG e1 e2 e3 M g0 g1 g2 g3 g4 r aa H hr=>?_);cbv))
  refine h _ _ _ _ _ _ (λhb=>?_) ?_
  ·have hb:A.eq r 0=true:=hb;rw[Z,hr]at hb;rw[if_pos (yU hb)];exact H
  ·show A.eq r 0=_;rw[Z,hr];by_cases e:(cQ env t).2.2=0
   ·rw[if_pos e,e];rfl
   ·rw[if_neg e];simpa using e
 have k:A.eq f 10=false:=by rw[Z];simpa using a
 rw[if_neg a]at h;by_cases E:f=9
 ·have y:A.eq f 9=true:=by rw[Z,E];rfl
  rw[if_pos E]at h;cbv;repeat' (first|apply bq|exact zf|(intro J;first|exact yB y J|cbv)|apply bE|(refine X.call (M5 (p:=λx=>x.name==c2) hc mZ (λx hx a0 a1 a2 a3 a4 a5 a6 K' F P=>Y6 F P) λr hr=>?_);cbv))
  all_goals (have hr:r=jA (λx:Pm=>x.name==c2) ctx:=hr)
  all_goals (
   rcases ve (p:=λx:Pm=>x.name==c2) (l:=ctx)with⟨f1,f2⟩|⟨i,T,f1,f2⟩
   ·have z:A.lt r 0=true:=by rw[c,hr,f1];rfl
    have q:=h 0 [] [] (.list []) (.list []) false (λe=>yC e) (by rw[f2];rfl)
    first
     |exact q
     |(exfalso;have B:A.lt r 0=false:=yA
       rw[z]at B;cases B;done)
   ·have Q:r=bk i:=by rw[hr,f1];rfl
    subst Q;have z:A.lt (bk i) 0=false:=by rw[c];simp only[bz];simp
    have O:=iX X.a hc T;have q:=h _ _ _ _ _ true (λ_=>by rw[f2];exact(kh X.a hc T).2.2) (by rw[f2];rfl)
    first
     |exact O
     |exact q
     |(exfalso;have B:A.lt (bk i) 0=true:=yA
       rw[z]at B;cases B;done))
 ·have y:A.eq f 9=false:=by rw[Z];simpa using E
  rw[if_neg E]at h;have q:=h 0 [] [] (.list []) (.list []) false (λe=>yC e) rfl;cbv;repeat' (first|apply bq|exact zf|(intro J;first|exact yB y J|exact yB k J|cbv)|apply bE)
  exact q
end
section
variable {K:PV->List Ob->Prop}{s a2 a3 o b2 i:S}{a1 b1:Int}{a4 a5 j f a d:D}{p m:Bool}{need c:List Fe}
def Zj(h:K (lH b1 b2 i j f a1 a2 a3 a4 a5) []):
 FT 165 [] [mO s a1 a2 a3 a4 a5 p,mO o b1 b2 i j f m] K:=by
 refine en (cf 10) Tryz.func165 λA C L X=>?_;cbv;exact h
def Zi(h:K (lH a1 a2 a3 a4 a5 b1 b2 i j f) []):
 FT 166 [] [mO s a1 a2 a3 a4 a5 p,mO o b1 b2 i j f m] K:=by
 refine en (cf 10) Tryz.func166 λA C L X=>?_;cbv;exact h
def Zh(h:K (lH a1 a2 a3 a4 a5 b1 b2 i j f) []):
 FT 168 [] [mO s a1 a2 a3 a4 a5 p,mO o b1 b2 i j f m] K:=by
 refine en (cf 10) Tryz.func168 λA C L X=>?_;cbv;exact h
def LL:ea:={tt:=tt,n:=46,own:=[6,8]}
def Nh(P:a=bA eZ need)(hh:d=bA eZ c)(aa:need.length<=1048576)(M:c.length<=4294967295)
 (x:eg true c need=none->K (.tup [.row 111 0,.bool false]) [.row 111 (.list []) true])
 (H:∀l r,eg true c need=some l->l.length<=need.length->r=bA eB l->K (.tup [.row 111 0,.bool true]) [.row 111 r true]):
 FT 164 [] [.lst 57 a,.lst 57 d,.cy 165 []] K:=by
 refine eo LL Tryz.func164 λA C L X=>?_;have Y:=fz X.a;obtain⟨u,B,h⟩:=lenOf P;cbv
 refine X.j0 (λ(y:Nat×List Jm×D)=>⟨[(15,.int .i64 y.1),(14,.int .i64 (A.len a)),(13,.lst 57 a),(8,.row 111 0),(2,.cy 165 []),(1,.lst 57 d),(0,.lst 57 a)],[.row 111 y.2.2 true]⟩)
  (λy=>y.1<=u/\eg true c need=(eg true c (need.drop y.1)).map (y.2.1++ ·)/\y.2.1.length<=y.1/\y.2.2=bA eB y.2.1) (λy=>u-y.1) (0,[],.list []) ⟨bB _,yS,cg _,rfl⟩ ?_ ?_
 ·skip
  exact⟨[1],rfl,yc⟩
 rintro⟨k,E,r⟩ ⟨hk,t,Q,hr⟩;simp only at hk t Q hr;cbv;constructor<;>intro h1
 ·have h5:k<need.length:=lY X.a h h1;have I:=iR X.a P h5;have V:=I.1;have T:=I.2.2;have kt:=I.2.1;have R:=iX X.a P h5;have G:=jX X.a h5;rw[bF h5]at t;have hB:∀row:List D,A.gh (A.add (A.len r) (A.len (A.lit [row]))) 4294967296:=λrow=>by rw[X.a,hr];simp only[SD];omega
  clear h1;cbv;repeat' (first|apply bq|exact zf|(intro J;cbv)|apply bE|(refine X.call (Pv hh M V λg0 g1 g2 g3 g4 g5 g6 b U hb=>?_);cbv))
  all_goals try first|exact R|exact G
  all_goals (
   have F:A.not b=false->∃g,dD c need[k].s=some g/\l9 g g0 g1 g2 g3 g4 g5 g6:=λe=>by
    rw[Y,hb]at e;cases hf:dD c need[k].s with
    |none=>rw[hf]at e;simp at e
    |some g=>rw[hf]at U;exact⟨g,rfl,U⟩
   have O:A.not b=true->dD c need[k].s=none:=λe=>by
    rw[Y,hb]at e;cases hf:dD c need[k].s with
    |none=>rfl
    |some g=>rw[hf]at e;simp at e)
  all_goals first
   |(have z:A.not b=true:=yA
     exact x (by rw[t,ov (O z)];rfl))
   |(have z:A.not b=false:=yA
     have w:A.not (A.asBool (A.cell a (bk k) 6))=false:=yA;have v:A.not g6=true:=yA;obtain⟨g,hf,n⟩:=F z;rw[Y,T]at w;rw[Y,n.2.2]at v;exact x (by rw[t,kO hf (by simp at w v;rw[w,v];rfl)];rfl))
   |(have z:A.not b=false:=yA
     have w:A.asBool (A.cell a (bk k) 6)=true:=yA;have v:A.not g6=true:=yA;obtain⟨g,hf,n⟩:=F z;rw[T]at w;rw[Y,n.2.2]at v;exact x (by rw[t,kO hf (by rw[w,v];rfl)];rfl))
   |(have z:A.not b=false:=yA
     obtain⟨g,hf,n⟩:=F z
     have N:(need[k].b&& !g.b)=false:=by
      first
       |(have v:A.not g6=false:=yA
         rw[Y,n.2.2]at v;rw[v,iI])
       |(have w:A.asBool (A.cell a (bk k) 6)=false:=yA
         rw[T]at w;rw[w,n9])
     refine X.call (Zj ?_);have W:A.app r (A.lit [[.int g1,.str g2,.str g3,g4,g5,.int (A.asInt (A.cell a (bk k) 1)),.str (A.bH (A.cell a (bk k) 2)),.str (A.bH (A.cell a (bk k) 3)),A.cell a (bk k) 4,A.cell a (bk k) 5]])=bA eB (E++[(g.t,need[k].t)]):=by rw[j5 n.2.1 kt,X.a,hr];exact cB (k:=[(g.t,need[k].t)])
     rw[ow hf N]at t;simp only[cv,if_false,if_true]at t;rw[oB]at t;cbv;repeat' (first|apply bq|exact zf|(intro J;cbv)|apply bE)
     all_goals try first|exact G|exact hB _
     refine⟨(k+1,E++[(g.t,need[k].t)],_),⟨?_,t,?_,W⟩,?_,[0],rfl,?_⟩
     ·simp only;omega
     ·simp only[bt,bM,bX];omega
     ·simp only;omega
     exact yc)
   |skip
 ·have h5:k=u:=gY X.a h h1;rw[h5,B,cd,eg,cr,cA]at t;have q:=H E r t yO hr;cbv;exact q
def Ng(P:a=bA eZ need)(hh:d=bA eZ c)(aa:need.length<=1048576)(M:c.length<=4294967295)
 (x:eg false c need=none->K (.tup [.row 111 0,.bool false]) [.row 111 (.list []) true])
 (H:∀l r,eg false c need=some l->l.length<=need.length->r=bA eB l->K (.tup [.row 111 0,.bool true]) [.row 111 r true]):
 FT 164 [] [.lst 57 a,.lst 57 d,.cy 166 []] K:=by
 refine eo LL Tryz.func164 λA C L X=>?_;have Y:=fz X.a;obtain⟨u,B,h⟩:=lenOf P;cbv
 refine X.j0 (λ(y:Nat×List Jm×D)=>⟨[(15,.int .i64 y.1),(14,.int .i64 (A.len a)),(13,.lst 57 a),(8,.row 111 0),(2,.cy 166 []),(1,.lst 57 d),(0,.lst 57 a)],[.row 111 y.2.2 true]⟩)
  (λy=>y.1<=u/\eg false c need=(eg false c (need.drop y.1)).map (y.2.1++ ·)/\y.2.1.length<=y.1/\y.2.2=bA eB y.2.1) (λy=>u-y.1) (0,[],.list []) ⟨bB _,yS,cg _,rfl⟩ ?_ ?_
 ·skip
  exact⟨[1],rfl,yc⟩
 rintro⟨k,E,r⟩ ⟨hk,t,Q,hr⟩;simp only at hk t Q hr;cbv;constructor<;>intro h1
 ·have h5:k<need.length:=lY X.a h h1;have I:=iR X.a P h5;have V:=I.1;have T:=I.2.2;have kt:=I.2.1;have R:=iX X.a P h5;have G:=jX X.a h5;rw[bF h5]at t;have hB:∀row:List D,A.gh (A.add (A.len r) (A.len (A.lit [row]))) 4294967296:=λrow=>by rw[X.a,hr];simp only[SD];omega
  clear h1;cbv;repeat' (first|apply bq|exact zf|(intro J;cbv)|apply bE|(refine X.call (Pv hh M V λg0 g1 g2 g3 g4 g5 g6 b U hb=>?_);cbv))
  all_goals try first|exact R|exact G
  all_goals (
   have F:A.not b=false->∃g,dD c need[k].s=some g/\l9 g g0 g1 g2 g3 g4 g5 g6:=λe=>by
    rw[Y,hb]at e;cases hf:dD c need[k].s with
    |none=>rw[hf]at e;simp at e
    |some g=>rw[hf]at U;exact⟨g,rfl,U⟩
   have O:A.not b=true->dD c need[k].s=none:=λe=>by
    rw[Y,hb]at e;cases hf:dD c need[k].s with
    |none=>rfl
    |some g=>rw[hf]at e;simp at e)
  all_goals first
   |(have z:A.not b=true:=yA
     exact x (by rw[t,ov (O z)];rfl))
   |(have z:A.not b=false:=yA
     have w:A.not (A.asBool (A.cell a (bk k) 6))=false:=yA;have v:A.not g6=true:=yA;obtain⟨g,hf,n⟩:=F z;rw[Y,T]at w;rw[Y,n.2.2]at v;exact x (by rw[t,kO hf (by simp at w v;rw[w,v];rfl)];rfl))
   |(have z:A.not b=false:=yA
     have w:A.asBool (A.cell a (bk k) 6)=true:=yA;have v:A.not g6=true:=yA;obtain⟨g,hf,n⟩:=F z;rw[T]at w;rw[Y,n.2.2]at v;exact x (by rw[t,kO hf (by rw[w,v];rfl)];rfl))
   |(have z:A.not b=false:=yA
     obtain⟨g,hf,n⟩:=F z
     have N:(need[k].b&& !g.b)=false:=by
      first
       |(have v:A.not g6=false:=yA
         rw[Y,n.2.2]at v;rw[v,iI])
       |(have w:A.asBool (A.cell a (bk k) 6)=false:=yA
         rw[T]at w;rw[w,n9])
     refine X.call (Zi ?_);have W:A.app r (A.lit [[.int (A.asInt (A.cell a (bk k) 1)),.str (A.bH (A.cell a (bk k) 2)),.str (A.bH (A.cell a (bk k) 3)),A.cell a (bk k) 4,A.cell a (bk k) 5,.int g1,.str g2,.str g3,g4,g5]])=bA eB (E++[(need[k].t,g.t)]):=by rw[j5 kt n.2.1,X.a,hr];exact cB (k:=[(need[k].t,g.t)])
     rw[ow hf N]at t;simp only[cv,if_false,if_true]at t;rw[oB]at t;cbv;repeat' (first|apply bq|exact zf|(intro J;cbv)|apply bE)
     all_goals try first|exact G|exact hB _
     refine⟨(k+1,E++[(need[k].t,g.t)],_),⟨?_,t,?_,W⟩,?_,[0],rfl,?_⟩
     ·simp only;omega
     ·simp only[bt,bM,bX];omega
     ·simp only;omega
     exact yc)
   |skip
 ·have h5:k=u:=gY X.a h h1;rw[h5,B,cd,eg,cr,cA]at t;have q:=H E r t yO hr;cbv;exact q
def Nf(P:a=bA eZ need)(hh:d=bA eZ c)(aa:need.length<=1048576)(M:c.length<=4294967295)
 (x:eg false c need=none->K (.tup [.row 111 0,.bool false]) [.row 111 (.list []) true])
 (H:∀l r,eg false c need=some l->l.length<=need.length->r=bA eB l->K (.tup [.row 111 0,.bool true]) [.row 111 r true]):
 FT 164 [] [.lst 57 a,.lst 57 d,.cy 168 []] K:=by
 refine eo LL Tryz.func164 λA C L X=>?_;have Y:=fz X.a;obtain⟨u,B,h⟩:=lenOf P;cbv
 refine X.j0 (λ(y:Nat×List Jm×D)=>⟨[(15,.int .i64 y.1),(14,.int .i64 (A.len a)),(13,.lst 57 a),(8,.row 111 0),(2,.cy 168 []),(1,.lst 57 d),(0,.lst 57 a)],[.row 111 y.2.2 true]⟩)
  (λy=>y.1<=u/\eg false c need=(eg false c (need.drop y.1)).map (y.2.1++ ·)/\y.2.1.length<=y.1/\y.2.2=bA eB y.2.1) (λy=>u-y.1) (0,[],.list []) ⟨bB _,yS,cg _,rfl⟩ ?_ ?_
 ·skip
  exact⟨[1],rfl,yc⟩
 rintro⟨k,E,r⟩ ⟨hk,t,Q,hr⟩;simp only at hk t Q hr;cbv;constructor<;>intro h1
 ·have h5:k<need.length:=lY X.a h h1;have I:=iR X.a P h5;have V:=I.1;have T:=I.2.2;have kt:=I.2.1;have R:=iX X.a P h5;have G:=jX X.a h5;rw[bF h5]at t;have hB:∀row:List D,A.gh (A.add (A.len r) (A.len (A.lit [row]))) 4294967296:=λrow=>by rw[X.a,hr];simp only[SD];omega
  clear h1;cbv;repeat' (first|apply bq|exact zf|(intro J;cbv)|apply bE|(refine X.call (Pv hh M V λg0 g1 g2 g3 g4 g5 g6 b U hb=>?_);cbv))
  all_goals try first|exact R|exact G
  all_goals (
   have F:A.not b=false->∃g,dD c need[k].s=some g/\l9 g g0 g1 g2 g3 g4 g5 g6:=λe=>by
    rw[Y,hb]at e;cases hf:dD c need[k].s with
    |none=>rw[hf]at e;simp at e
    |some g=>rw[hf]at U;exact⟨g,rfl,U⟩
   have O:A.not b=true->dD c need[k].s=none:=λe=>by
    rw[Y,hb]at e;cases hf:dD c need[k].s with
    |none=>rfl
    |some g=>rw[hf]at e;simp at e)
  all_goals first
   |(have z:A.not b=true:=yA
     exact x (by rw[t,ov (O z)];rfl))
   |(have z:A.not b=false:=yA
     have w:A.not (A.asBool (A.cell a (bk k) 6))=false:=yA;have v:A.not g6=true:=yA;obtain⟨g,hf,n⟩:=F z;rw[Y,T]at w;rw[Y,n.2.2]at v;exact x (by rw[t,kO hf (by simp at w v;rw[w,v];rfl)];rfl))
   |(have z:A.not b=false:=yA
     have w:A.asBool (A.cell a (bk k) 6)=true:=yA;have v:A.not g6=true:=yA;obtain⟨g,hf,n⟩:=F z;rw[T]at w;rw[Y,n.2.2]at v;exact x (by rw[t,kO hf (by rw[w,v];rfl)];rfl))
   |(have z:A.not b=false:=yA
     obtain⟨g,hf,n⟩:=F z
     have N:(need[k].b&& !g.b)=false:=by
      first
       |(have v:A.not g6=false:=yA
         rw[Y,n.2.2]at v;rw[v,iI])
       |(have w:A.asBool (A.cell a (bk k) 6)=false:=yA
         rw[T]at w;rw[w,n9])
     refine X.call (Zh ?_);have W:A.app r (A.lit [[.int (A.asInt (A.cell a (bk k) 1)),.str (A.bH (A.cell a (bk k) 2)),.str (A.bH (A.cell a (bk k) 3)),A.cell a (bk k) 4,A.cell a (bk k) 5,.int g1,.str g2,.str g3,g4,g5]])=bA eB (E++[(need[k].t,g.t)]):=by rw[j5 kt n.2.1,X.a,hr];exact cB (k:=[(need[k].t,g.t)])
     rw[ow hf N]at t;simp only[cv,if_false,if_true]at t;rw[oB]at t;cbv;repeat' (first|apply bq|exact zf|(intro J;cbv)|apply bE)
     all_goals try first|exact G|exact hB _
     refine⟨(k+1,E++[(need[k].t,g.t)],_),⟨?_,t,?_,W⟩,?_,[0],rfl,?_⟩
     ·simp only;omega
     ·simp only[bt,bM,bX];omega
     ·simp only;omega
     exact yc)
   |skip
 ·have h5:k=u:=gY X.a h h1;rw[h5,B,cd,eg,cr,cA]at t;have q:=H E r t yO hr;cbv;exact q
end
end Go.VC.cG
namespace Go.VC
abbrev qO(de dc a b:D)(wr:Bool):List Ob:=[.box [.lst 97 de,.lst 73 dc,.mp 1,.row 9 2],.map .str 4 a,.row 9 b wr]
abbrev qO'(de dc a b:D)(wr:Bool):List Ob:=[.box [.lst 97 de,.lst 73 dc,.mp 1,.row 9 3],.map .str 4 a,.dead,.row 9 b wr]
abbrev qR(de dc a b:D)(wr:Bool)(r:D):List Ob:=[.box [.lst 97 de,.lst 73 dc,.mp 1,.row 9 4],.map .str 4 a,.dead,.row 111 r true,.row 9 b wr]
end Go.VC
namespace Go.VC.cG
open Go Go.VC Go.Proofs
def Ut:ea:={tt:=tt,n:=59,n0:=3,own:=[6]}
def ZJ{de dc o j:D}{wr:Bool}{s t:Ty}{d:Int}{a1 a2:S}{a3 a4:D}{c:Int}{b1 b2:S}{v z:D}(hs:cD s d a1 a2 a3 a4)(u:cD t c b1 b2 v z)
 {K:PV->List Ob->Prop} (h:∀r b,me (xR s t) r b->K (.tup [.row 111 3,.bool b]) (qR de dc o j wr r)):
 FT 103 (qO de dc o j wr) [.box 0 0,dO d a1 a2 a3 a4,dO c b1 b2 v z] K:=by
 obtain⟨g,F,w,f,i⟩:=id hs;obtain⟨k,E,p,m,l⟩:=id u;refine el Ut Tryz.func103 λA C L X=>?_;have Y:=fz X.a;have Z:=qH X.a;have a:=Nw X.a;have key:∀b,b=(s.k==1||t.k==0||(s.k==t.k&&(s.k==2||s.k==3||s.k==4))||(s.k==9&&t.k==9&&s.n==t.n))->K (.tup [.row 111 3,.bool b]) (qR de dc o j wr (.list [])):=λb e=>h _ _ (me.p1 rfl e);have q:A.eq d c=(s.k==t.k):=by rw[Z,g,k]
 have x:∀n,A.eq d n=(s.k==n):=λn=>by rw[Z,g]
 have B:∀n,A.eq c n=(t.k==n):=λn=>by rw[Z,k]
 have y:A.seq a2 b2=(s.n==t.n):=by rw[a,w,p]
 clear h;cbv;repeat' (first|apply bq|exact zf|(intro J;cbv)|apply bE)
 all_goals (refine key _ ?_;clear key X Y Z a f i m l hs u;simp only[dL,q,x,B,y]at *;clear q x B y g F w k E p;simp_all;done)
end Go.VC.cG
namespace Go.VC
end Go.VC
namespace Go.VC.cG
open Go Go.VC Go.Proofs
end Go.VC.cG
namespace Go.VC
open Classical
section
variable {dec:Jm->Mem->Option (Bool×Mem)}{j:Jm}{C:List Ty}{a:Nat->Option (List Jm)}{g b l:List Jm}{r:Nat}{c:List Nat}
def xB(o:∀j g b r,j.1∈C->j.2∈C->gH C (g,b)->dec j (g,b)=some r->Qp C g b r):
 ∀(l:List Jm)(g b:List Jm)(r:Bool×Mem),(∀j∈l,j.1∈C/\j.2∈C)->gH C (g,b)->lD dec l (g,b)=some r->(∃x,r.2.1=g++x)/\(∃x,r.2.2=b++x)/\gH C r.2
 |[],g,b,r,_,i,h=>by rw[lD]at h;cases h;exact⟨⟨[],yS⟩,⟨[],yS⟩,i⟩
 |j::l,g,b,r,hl,i,h=>by
  rw[lD]at h;cases d:dec j (g,b)with
  |none=>rw[d]at h;cases h
  |some q=>
   rw[d]at h;have n:=o j g b q (hl j yS).1 (hl j yS).2 i d;obtain⟨x,m,_⟩:=n.ext;obtain⟨y,f⟩:=n.bad;have e:=n.inv;obtain⟨p,u,b'⟩:=q;simp only at m f e;cases p with
   |false=>cases h;exact⟨⟨x,m⟩,⟨y,f⟩,e⟩
   |true=>obtain⟨⟨t,J⟩,⟨s,h3⟩,h4⟩:=xB o l u b' r (λk hk=>hl k (by simp[hk])) e h;exact⟨⟨x++t,by rw[J,m,bI]⟩,⟨y++s,by rw[h3,f,bI]⟩,h4⟩
def sG(h1:j.1∈C)(J:j.2∈C)(e:j∉g)(o:∀r l,a r=some l->∀k∈l,k.1∈C/\k.2∈C)
 (n:∀k m b' r,k.1∈C->k.2∈C->gH C (m,b')->dec k (m,b')=some r->Qp C m b' r):
 ∀(c:List Nat)(b:List Jm)(q:Bool×Mem),gH C (g,b)->j∉b->gA dec a j g c b=some q->Qp C g b q
 |[],b,q,f,hb,h=>by rw[gA]at h;cases h;exact⟨⟨[],yS⟩,⟨[j],rfl⟩,f.fail h1 J e hb⟩
 |r::c,b,q,f,hb,h=>by
  rw[gA]at h;cases hr:a r with
  |none=>rw[hr]at h;exact sG h1 J e o n c b q f hb h
  |some l=>
   rw[hr]at h;simp only at h;cases p:lD dec l (g++[j],b)with
   |none=>rw[p]at h;cases h
   |some v=>
    rw[p]at h;obtain⟨⟨x,i⟩,⟨y,t⟩,d⟩:=xB n l (g++[j]) b v (o r l hr) (f.push h1 J e hb) p;obtain⟨w,m,b'⟩:=v;simp only at i t d;cases w with
    |true=>cases h;exact⟨⟨[j]++x,by simp[i],yS⟩,⟨y,t⟩,d⟩
    |false=>
     have s:gH C (g,b'):=by
      have:gH C (g++([j]++x),b'):=by rw[<- bI,<-i];exact d
      exact this.back
     have u:j∉b':=d.d j (by simp only[i];simp);have a2:=sG h1 J e o n c b' q s u h;refine⟨a2.ext,?_,a2.inv⟩;obtain⟨z,hz⟩:=a2.bad;exact⟨y++z,by rw[hz,t,bI]⟩
def zc{a:Ty->Ty->Nat->Option (List Jm)}(hC:GQ C a):
 ∀(n:Nat)(j:Jm)(g b:List Jm)(r:Bool×Mem),j.1∈C->j.2∈C->gH C (g,b)->pw a n j (g,b)=some r->Qp C g b r
 |0,j,g,b,r,_,_,_,h=>by rw[pw]at h;cases h
 |n+1,j,g,b,r,h1,J,e,h=>by
  rw[pw]at h;by_cases hb:j∈b
  ·rw[if_pos hb]at h;cases h;exact⟨⟨[],yS⟩,⟨[],yS⟩,e⟩
  rw[if_neg hb]at h;by_cases d:j∈g
  ·rw[if_pos d]at h;cases h;exact⟨⟨[],yS⟩,⟨[],yS⟩,e⟩
  rw[if_neg d]at h;exact sG h1 J d (λr l hr=>hC _ h1 _ J r l hr) (λk f b' r a1 a2 a3 a4=>zc hC n k f b' r a1 a2 a3 a4) [1,2,3,4,5] b r e hb h
def mf(n:Nat):List Nat:=[1,2,3,4,5].drop (n-1)
def tF{n:Nat}(h:1<=n/\n<=5):mf n=n::mf (n+1):=by have:n=1\/n=2\/n=3\/n=4\/n=5:=yO;rcases this with rfl|rfl|rfl|rfl|rfl<;>rfl
def sb:mf 6=[]:=rfl
def Dm(h:a r=none):gA dec a j g (r::c) b=gA dec a j g c b:=by rw[gA,h]
def Dk{d:Bool×Mem}(h:a r=some l)(hr:gA dec a j g (r::c) b=some d):
 ∃q,lD dec l (g++[j],b)=some q/\(q.1=true->d=q)/\(q.1=false->gA dec a j g c q.2.2=some d):=by
 rw[gA,h]at hr;simp only at hr;cases f:lD dec l (g++[j],b)with
 |none=>rw[f]at hr;cases hr
 |some q=>
  rw[f]at hr;obtain⟨i,m⟩:=q;cases i with
  |true=>cases hr;exact⟨_,rfl,λ_=>rfl,λe=>absurd e yS⟩
  |false=>exact⟨_,rfl,λe=>absurd e yS,λ_=>hr⟩
def II{m:Mem}{q:Bool×Mem}(h:lD dec (j::l) m=some q):
 ∃r,dec j m=some r/\(r.1=true->lD dec l r.2=some q)/\(r.1=false->q=r):=by
 rw[lD]at h;cases d:dec j m with
 |none=>rw[d]at h;cases h
 |some r=>
  rw[d]at h;obtain⟨r0,m'⟩:=r;cases r0 with
  |true=>exact⟨_,rfl,λ_=>h,λe=>absurd e yS⟩
  |false=>cases h;exact⟨_,rfl,λe=>absurd e yS,λ_=>rfl⟩
end
end Go.VC
namespace Go.VC
def og(env:List IF)(t:Ty):List Ty:=t.er++(if(cQ env t).2.2=0 then [(cQ env t).1,(cQ env t).2.1]else [])
structure Wt (t:Ty):Prop where
 le:Ty.le 4294967295 t
 sz:t.size<=4294967295
structure Tm (env:List IF) (l K W:List Ty):Prop where
 len:K.length<=120
 sz:∀t∈K,t.size<=200
 init:∀t∈l,t∈K\/t∈W
 cl:∀t∈K,∀u∈og env t,u∈K\/u∈W
 wl:W.length<=l.length+K.length*202
 wt:∀t∈W,Wt t
 WH:∀t∈K,Ty.le 4294967295 t
def Tm.start{env:List IF}{l:List Ty}(h:∀t∈l,Wt t):Tm env l [] l:=⟨yS,yS,λt a=>.inr a,yS,yS,h,yS⟩
def Tm.seen{env:List IF}{l K W:List Ty}{t:Ty}(h:Tm env l K (W++[t]))(b:t∈K):Tm env l K W:=by
 refine⟨h.len,h.sz,λu hu=>?_,λs hs u hu=>?_,?_,λu hu=>h.wt u (by simp[hu]),h.WH⟩
 ·rcases h.init u hu with a|a
  ·exact .inl a
  ·rcases bG.1 a with a|a
   ·exact .inr a
   ·simp at a;subst a;exact .inl b
 ·rcases h.cl s hs u hu with a|a
  ·exact .inl a
  ·rcases bG.1 a with a|a
   ·exact .inr a
   ·simp at a;subst a;exact .inl b
 ·have:=h.wl;simp at this;omega
def Wt.part{t u:Ty}(h:Wt t)(hu:u∈t.er):Wt u:=by refine⟨ie h.le u hu,?_⟩;have:=size_eq t;have J:u.size<=(t.er.map Ty.size).sum:=ph (bP.2 ⟨u,hu,rfl⟩);have:=h.sz;omega
def Wt.gh{env:List IF}(eO:∀i∈env,i.fit){t:Ty}(d:Wt t)(hs:t.size<=200):Wt (cQ env t).1/\Wt (cQ env t).2.1:=by
 have z:Wt Ty.zero:=⟨oc,by simp[Ty.zero,Ty.size,Ty.r7,Ty.r8]⟩;unfold cQ;split
 ·exact⟨z,z⟩
 ·split
  ·exact⟨z,z⟩
  ·rename_i h1;split
   ·exact⟨z,z⟩
   ·obtain⟨i,e,f⟩:=xg (yU h1);have a:=(eO i e).t _ f;have b:∀u∈t.ar,Wt u/\u.size<=200:=λu hu=>by refine⟨d.part (nW hu),?_⟩;have:=size_eq t;have J:u.size<=(t.er.map Ty.size).sum:=ph (bP.2 ⟨u,nW hu,rfl⟩);omega
    have go:∀y:Ty,y.fit->∀ns,Wt (y.sub ns t.ar):=λy c ns=>by refine⟨sub_le (λu hu=>(b u hu).1.le) y c.le,?_⟩;have:=Ki (ns:=ns) (by decide:1<=200) (λu hu=>(b u hu).2) y;have:=c.sz;omega
    exact⟨go _ a.lo _,go _ a.up _⟩
def Tm.new{env:List IF}(eO:∀i∈env,i.fit){l K W:List Ty}{t:Ty}(h:Tm env l K (W++[t]))(hk:K.length<120)(hs:t.size<=200):Tm env l (K++[t]) (W++og env t):=by
 have d:=h.wt t yS;have e:(og env t).length<=202:=by have:=iU t;unfold og;rw[bt];split<;>simp<;>omega
 refine⟨yQ,λu hu=>?_,λu hu=>?_,λs c u hu=>?_,?_,λu hu=>?_,λu hu=>by
  rcases bG.1 hu with hu|hu
  ·exact h.WH u hu
  ·simp at hu;subst hu;exact d.le⟩
 ·rcases bG.1 hu with hu|hu
  ·exact h.sz u hu
  ·simp at hu;subst hu;exact hs
 ·rcases h.init u hu with a|a
  ·exact .inl (by simp[a])
  ·rcases bG.1 a with a|a
   ·exact .inr (by simp[a])
   ·simp at a;subst a;exact .inl yS
 ·rcases bG.1 c with c|c
  ·rcases h.cl s c u hu with a|a
   ·exact .inl (by simp[a])
   ·rcases bG.1 a with a|a
    ·exact .inr (by simp[a])
    ·simp at a;subst a;exact .inl yS
  ·simp at c;subst c;exact .inr (by simp[hu])
 ·have:=h.wl;simp only[bt,bM,bX]at this ⊢;omega
 ·rcases bG.1 hu with hu|hu
  ·exact h.wt u (by simp[hu])
  ·unfold og at hu;rcases bG.1 hu with hu|hu
   ·exact d.part hu
   ·obtain⟨a,b⟩:=Wt.gh eO d hs;split at hu
    ·simp at hu;rcases hu with rfl|rfl
     ·exact a
     ·exact b
    ·simp at hu
def Tm.fin{env:List IF}{l K:List Ty}(h:Tm env l K []):JA env l K:=by
 refine⟨h.len,h.sz,λt b=>?_,λt b u hu=>?_,λt b e=>⟨?_,?_⟩⟩
 ·rcases h.init t b with a|a
  ·exact a
  ·simp at a
 ·rcases h.cl t b u (dF _ hu)with a|a
  ·exact a
  ·simp at a
 ·rcases h.cl t b _ (dI _ (by rw[if_pos e];exact List.mem_cons_self))with a|a
  ·exact a
  ·simp at a
 ·rcases h.cl t b (cQ env t).2.1 (dI _ (by rw[if_pos e];simp))with a|a
  ·exact a
  ·simp at a
def QC(l K W:List Ty):Nat:=(120-K.length)*(l.length+24241)+W.length
def Kb{l K W:List Ty}{t:Ty}:QC l K W<QC l K (W++[t]):=by unfold QC;simp
def Hf{env:List IF}{l K W a:List Ty}{t:Ty}(h:Tm env l (K++[t]) a)(hk:K.length<120):QC l (K++[t]) a<QC l K (W++[t]):=by have:=h.wl;unfold QC;simp only[bt,bM,bX]at this ⊢;obtain⟨d,b⟩:∃d,120-K.length=d+1:=⟨119-K.length,yO⟩;have e:120-(K.length+(0+1))=d:=yO;rw[e,b,Nat.succ_mul];omega
section
variable {env:List IF}{ctx:List Pm}
def gH.Tb{C:List Ty}(h:Bh env ctx C){m:Mem}(a:gH C m):m.1.length<=14400/\m.2.length<=14400:=by have h1:=h.len;have J:C.length*C.length<=120*120:=oS h1 h1;exact⟨bQ a.WE J,bQ a.WG J⟩
def rA{sw:Bool}{b:List Fe}:∀{l:List Fe}{r:List Jm},eg sw b l=some r->r.length=l.length
 |[],r,h=>by rw[eg]at h;cases h;rfl
 |f::l,r,h=>by
  rw[eg]at h;split at h
  ·cases h
  ·split at h
   ·cases h
   ·cases a:eg sw b l with
    |none=>rw[a]at h;cases h
    |some q=>rw[a]at h;simp only[cr,cz]at h;subst h;simp[rA a]
def EA:∀{ps:List Pm}{xs ys:List Ty},(mV ps xs ys).length<=2*xs.length
 |[],xs,ys=>by simp[mV]
 |p::ps,[],ys=>by simp[mV]
 |p::ps,a::xs,[]=>by simp[mV]
 |p::ps,a::xs,b::ys=>by have:=EA (ps:=ps) (xs:=xs) (ys:=ys);rw[mV];simp only[bt,bM];split<;>split<;>simp<;>omega
def xP{s t:Ty}{r:Nat}{l:List Jm}(h:lF env ctx s t r=some l):l.length<=s.fl.length+t.fl.length+2*s.ar.length+1:=by
 unfold lF at h;split at h
 ·unfold xR at h;split at h
  ·cases h;simp
  ·cases h
 ·split at h
  ·unfold jZ at h;split at h
   ·cases h
   ·split at h
    ·cases h;simp
    ·split at h
     ·have:=rA h;omega
     ·split at h
      ·have:=rA h;omega
      ·split at h
       ·split at h
        ·cases a:eg false s.fl t.fl with
         |none=>rw[a]at h;cases h
         |some q=>rw[a]at h;have:=rA a;cases h;simp;omega
        ·cases h
       ·cases h
  ·split at h
   ·unfold kL at h;split at h
    ·cases h
    ·split at h
     ·cases h
     ·cases h;have:=EA (ps:=(di env s.m s.n).1.params) (xs:=s.ar) (ys:=t.ar);omega
   ·split at h
    ·unfold tK at h;cases hb:jB env ctx s with
     |none=>rw[hb]at h;cases h
     |some u=>rw[hb]at h;cases h;simp
    ·unfold xQ at h;split at h
     ·cases h;simp
     ·cases h
end
end Go.VC
namespace Go.VC.cG
open Go Go.VC Go.Proofs
open Classical
def Qj(env:List IF)(ctx:List Pm)(C:List Ty)(s t:Ty)(b:Bool):Prop:=∃n m,pw (lF env ctx) n (s,t) ([],[])=some (b,m)
end Go.VC.cG
namespace Go.VC.cG
open Go Go.VC Go.Proofs
section
variable {env:List IF}{ctx:List Pm}{C:List Ty}{de dc f d k:D}{n:Nat}{g b l:List Jm}{m:List (S×Bool)}{c:Bool×Mem}{K:PV->List Ob->Prop}
def Co(env:List IF)(ctx:List Pm)(C:List Ty)(de dc:D)(n:Nat):Prop:=
 ∀{s t:Ty}{g b:List Jm}{m:List (S×Bool)}{f d:D}{c:Bool×Mem}{h:Int}{a1 a2:S}{a3 a4:D}{i:Int}{b1 b2:S}{o j:D}{K:PV->List Ob->Prop},s∈C->t∈C->
  pw (lF env ctx) n (s,t) (g,b)=some c->gH C (g,b)->MK m g b->f=bA cO m->d=bA encS (g.map ja)->cD s h a1 a2 a3 a4->cD t i b1 b2 o j->
  (∀r m' e a,r=c.1->MK m' c.2.1 c.2.2->e=bA cO m'->a=bA encS (c.2.1.map ja)->K (.bool r) (qO' de dc e a true))->
  FT 49 (qO de dc f d true) [.box 0 0,lH h a1 a2 a3 a4 i b1 b2 o j] K
def Un:ea:={tt:=tt,n:=8,n0:=4,live:=[49]}
def Ua:ea:={tt:=tt,n:=19,n0:=4,live:=[109]}
def Uo:ea:={tt:=tt,n:=9,n0:=4,live:=[170]}
def ZD(I:Co env ctx C de dc n){s t:Ty}(x:s∈C)(w:t∈C)(p:pw (lF env ctx) n (s,t) (g,b)=some c)(H:gH C (g,b))(y:MK m g b)(v:f=bA cO m)(u:d=bA encS (g.map ja))
 {F:Int}{a1 a2:S}{a3 a4:D}{B:Int}{b1 b2:S}{z E:D} (hs:cD s F a1 a2 a3 a4) (G:cD t B b1 b2 z E)
 (h:∀r m' e a,r= !c.1->MK m' c.2.1 c.2.2->e=bA cO m'->a=bA encS (c.2.1.map ja)->K (.bool r) (Wk de dc e a)):
 FT 109 (fO de dc f d) [lH F a1 a2 a3 a4 B b1 b2 z E,.box 0 0] K:=by
 refine el Un Tryz.func109 λA M L X=>?_;have Y:=fz X.a;cbv;refine X.call (I x w p H y v u hs G λr m' e a hr o j i=>?_);have q:=h (A.not r) m' e a (by rw[Y,hr]) o j i;cbv;exact q
def Zf(hC:Bh env ctx C)(ih:Co env ctx C de dc n)(hl:k=bA eB l)(U:l.length<=4294967290)(R:∀j∈l,j.1∈C/\j.2∈C)(a:lD (pw (lF env ctx) n) l (g,b)=some c)(M:gH C (g,b))(u:MK m g b)(t:f=bA cO m)(s:d=bA encS (g.map ja))
 (h:∀(r:Int) m' x w,(0<=r↔c.1=false)->MK m' c.2.1 c.2.2->x=bA cO m'->w=bA encS (c.2.1.map ja)->K (.int .i64 r) (Wk de dc x w)):
 FT 170 (fO de dc f d) [.lst 111 k,.cy 109 [.box 0 0]] K:=by
 refine el Ua Tryz.func170 λA C2 L X=>?_;have Y:=fz X.a;obtain⟨dec,G⟩:∃dec,dec=pw (lF env ctx) n:=⟨_,rfl⟩;rw[<- G]at a;have N:=hC.closed;obtain⟨v,H,o⟩:=lenOf hl;cbv
 refine X.j0 (λ(y:Nat×Mem×D×D)=>⟨[(8,.int .i64 y.1),(7,.int .i64 (A.len k)),(1,.cy 109 [.box 0 0]),(0,.lst 111 k)],[.box [.box 1 0],.box [.lst 97 de,.lst 73 dc,.mp 2,.row 9 4],.map .str 4 y.2.2.1,.dead,.row 9 y.2.2.2 true]⟩)
  (λy=>y.1<=v/\lD dec (l.drop y.1) y.2.1=some c/\gH C y.2.1/\(∃m,MK m y.2.1.1 y.2.1.2/\y.2.2.1=bA cO m)/\y.2.2.2=bA encS (y.2.1.1.map ja)) (λy=>v-y.1) (0,(g,b),f,d) ⟨bB _,a,M,⟨m,u,t⟩,s⟩ ?_ ?_
 ·exact⟨[0,1,2,3,4],rfl,yc⟩
 clear a M u t s;rintro⟨i,mem,f,d⟩ ⟨hi,a,M,⟨m,u,t⟩,s⟩;simp only at hi a M u t s;cbv;constructor<;>intro h1
 ·have h5:i<l.length:=lY X.a o h1;have ad:=iX X.a hl h5;have W:=jX X.a h5;rw[bF h5]at a;obtain⟨I,g1,g2,g3⟩:=II a;have p:=R _ (bu h5);obtain⟨T,k2⟩:=OD X.a hl h5;rw[G]at g1;have V:=zc N n l[i] mem.1 mem.2 I p.1 p.2 M g1;clear h1;refine p1 ?_;refine X.call (ZD ih p.1 p.2 g1 M u t s T k2 λr m' x w hr F E B=>?_);cbv;constructor<;>intro z
  ·have e3:I.1=false:=by
    have P:r=true:=z;cases Q:I.1 with
    |false=>rfl
    |true=>rw[P,Q]at hr;cases hr
   have O:=g3 e3;have q:=h (bk i) m' x w ⟨λ_=>by rw[O];exact e3,λ_=>yL⟩ (by rw[O];exact F) E (by rw[O];exact B);cbv;exact q
  ·have e3:I.1=true:=by
    have P:r=false:=z;cases Q:I.1 with
    |true=>rfl
    |false=>rw[P,Q]at hr;cases hr
   have O:=g2 e3;refine p1 ?_;exact⟨(i+1,I.2,x,w),⟨yP,O,V.inv,⟨m',F,E⟩,B⟩,yP,[0,1,2,3,5],rfl,yc⟩
 ·have h5:i=v:=gY X.a o h1;rw[h5,H,cd,lD]at a;cases a;have q:=h (-1) m f d ⟨λe=>absurd e yD,λe=>yC e⟩ u t s;clear h1;cbv;repeat' (first|apply bq|exact zf|(intro J;cbv)|apply bE)
  exact q
def ZE(hC:Bh env ctx C)(E:Co env ctx C de dc n)(hl:k=bA eB l)(v:l.length<=4294967290)(y:∀j∈l,j.1∈C/\j.2∈C)(s:lD (pw (lF env ctx) n) l (g,b)=some c)(B:gH C (g,b))(z:MK m g b)(u:f=bA cO m)(w:d=bA encS (g.map ja))
 (h:∀r m' i e,r= !c.1->MK m' c.2.1 c.2.2->i=bA cO m'->e=bA encS (c.2.1.map ja)->K (.bool r) (Wk de dc i e)):
 FT 108 (fO de dc f d) [.lst 111 k,.cy 109 [.box 0 0]] K:=by
 refine el Uo Tryz.func108 λA F L X=>?_;have x:∀a b:Int,A.le a b=decide (a<=b):=by rw[X.a];exactλ_ _=>rfl
 cbv;refine X.call (Zf hC E hl v y s B z u w λr m' i e hr t o p=>?_);have q:=h (A.le 0 r) m' i e (by rw[x,cM,decide_eq_true_iff,hr];cases c.1<;>simp) t o p;cbv;exact q
end
section
variable {env:List IF}{t s:Ty}{de dc i g a3 a4 c d:D}{wr:Bool}{f a:Int}{a1 a2 b1 b2:S}{K:PV->List Ob->Prop}
def Uq:ea:={tt:=tt,n:=28,n0:=3,qC:=[21,22],own:=[6,26],nh:=[1]}
def Up:ea:={tt:=tt,n:=30,n0:=3,qC:=[21,22,23],own:=[6,27],nh:=[3]}
def ZG(he:de=bA dC env)(ek:eH env){ctx:List Pm}(hc:dc=bA eU ctx)(mZ:ctx.length<=4294967295)(n:Ty.le 4294967295 s)(hs:cD s f a1 a2 a3 a4)(v:cD t a b1 b2 c d)
 (h:∀r b,me (tK env ctx s t) r b->K (.tup [.row 111 3,.bool b]) (qR de dc i g wr r)):
 FT 106 (qO de dc i g wr) [.box 0 0,dO f a1 a2 a3 a4,dO a b1 b2 c d] K:=by
 refine el Uq Tryz.func106 λA C L X=>?_;unfold tK at h;cbv
 refine X.cut (λ(z:(Int×S×S×D×D)×Bool)=>⟨[(9,.bool z.2),(8,.box 6 0),(5,.box 5 0),(4,.box 4 0)],[.box [.lst 97 de,.lst 73 dc,.mp 1,.row 9 3],.map .str 4 i,.dead,.row 9 g wr,.box [.int .i64 f,.str a1,.str a2,.lst 29 a3,.lst 57 a4],.box [.int .i64 a,.str b1,.str b2,.lst 29 c,.lst 57 d],.box [.int .i64 z.1.1,.str z.1.2.1,.str z.1.2.2.1,.lst 29 z.1.2.2.2.1,.lst 57 z.1.2.2.2.2]]⟩)
  (λz=>(z.2=true->cD ((jB env ctx s).getD Ty.zero) z.1.1 z.1.2.1 z.1.2.2.1 z.1.2.2.2.1 z.1.2.2.2.2)/\z.2=(jB env ctx s).isSome) ?_ ?_
 ·cbv;repeat' (first|apply bq|exact zf|(intro J;cbv)|apply bE|(refine X.call (Zg he ek hc mZ n hs λm p k j o b hu hb=>?_);cbv))
  all_goals (
   exact⟨((m,p,k,j,o),b),⟨hu,hb⟩,[0,1,2,3,4,5,7],rfl,yc⟩)
 rintro⟨⟨m,p,k,j,o⟩,b⟩ ⟨hu,hb⟩;simp only at hu hb;cases e:jB env ctx s with
 |none=>rw[e]at hb;obtain rfl:b=false:=hb;have q:=λr=>h r false (by rw[e];exact me.no rfl);cbv;exact q _
 |some u=>rw[e]at hb hu;obtain rfl:b=true:=hb;have q:=h _ true (me.yes (l:=[(u,t)]) (r:=A.lit [[.int m,.str p,.str k,j,o,.int a,.str b1,.str b2,c,d]]) (by rw[e];rfl) (by refine iu (congrArg (λz=>A.lit [z]) (j5 (hu rfl) v)) ?_;rw[X.a];rfl));cbv;exact q
def A8(h:t.k≠10):(cQ env t).2.2≠0:=by unfold cQ;rw[if_pos h];decide
def ZF(he:de=bA dC env)(ek:eH env)(c8:Ty.le 4294967295 t)(hs:cD s f a1 a2 a3 a4)(u:cD t a b1 b2 c d)
 (h:∀r b,me (xQ env s t) r b->K (.tup [.row 111 3,.bool b]) (qR de dc i g wr r)):
 FT 107 (qO de dc i g wr) [.box 0 0,dO f a1 a2 a3 a4,dO a b1 b2 c d] K:=by
 refine el Up Tryz.func107 λA C L X=>?_;have Y:=fz X.a;have Z:=qH X.a;have k:A.not (A.eq a 10)= !(t.k==10):=by rw[Y,Z,u.1]
 unfold xQ at h;by_cases hk:t.k=10
 ·have k:A.not (A.eq a 10)=false:=by rw[k,hk];rfl
  cbv;repeat' (first|apply bq|exact zf|(intro J;first|exact yB k J|cbv)|apply bE)
  refine X.cut (λ(z:(Int×S×S×D×D)×Int)=>⟨[(10,.int .i64 z.2),(8,.box 6 0),(5,.box 5 0),(4,.box 4 0)],[.box [.lst 97 de,.lst 73 dc,.mp 1,.row 9 3],.map .str 4 i,.dead,.row 9 g wr,.box [.int .i64 f,.str a1,.str a2,.lst 29 a3,.lst 57 a4],.box [.int .i64 a,.str b1,.str b2,.lst 29 c,.lst 57 d],.box [.int .i64 z.1.1,.str z.1.2.1,.str z.1.2.2.1,.lst 29 z.1.2.2.2.1,.lst 57 z.1.2.2.2.2]]⟩)
   (λz=>cD (cQ env t).1 z.1.1 z.1.2.1 z.1.2.2.1 z.1.2.2.2.1 z.1.2.2.2.2/\z.2=(cQ env t).2.2) ?_ ?_
  ·cbv;repeat' (first|apply bq|exact zf|(intro J;cbv)|apply bE|(refine X.call (Py he ek c8 u λn p m l o g0 g1 g2 g3 g4 r j v hr=>?_);cbv))
   all_goals first
    |(exact⟨((n,p,m,l,o),r),⟨j,hr⟩,[0,1,2,3,4,5,7],rfl,yc⟩
      done)
    |(exact⟨((n,p,m,l,o),r),⟨j,hr⟩,[0,1,2,3,4,5,8],rfl,yc⟩
      done)
    |skip
  rintro⟨⟨n,p,m,l,o⟩,r⟩ ⟨j,hr⟩;simp only at j hr
  have q:=h (A.lit [[.int f,.str a1,.str a2,a3,a4,.int n,.str p,.str m,l,o]]) (A.eq r 0) (by
   rw[Z,hr];by_cases e:(cQ env t).2.2=0
   ·rw[if_pos e,e];refine me.yes rfl ?_;refine iu (congrArg (λz=>A.lit [z]) (j5 hs j)) ?_;rw[X.a];rfl
   ·rw[if_neg e];have:((cQ env t).2.2==0)=false:=yU e;rw[this];exact me.no rfl)
  cbv;exact q
 ·have k:A.not (A.eq a 10)=true:=by rw[k];simpa using hk
  have q:=λr=>h r false (me.no (by rw[if_neg (A8 hk)]));cbv;repeat' (first|apply bq|exact zf|(intro J;first|exact yB k J|cbv)|apply bE)
  exact q _
end
end Go.VC.cG
namespace Go.VC
def Hy{s t:Ty}(h:s.k=t.k)(h6:s.k=6):jZ s t=eg true s.fl t.fl:=by unfold jZ;rw[if_neg (yU h),if_neg yO,if_pos h6]
def Hx{s t:Ty}(h:s.k=t.k)(h7:s.k=7):jZ s t=eg false t.fl s.fl:=by unfold jZ;rw[if_neg (yU h),if_neg yO,if_neg yO,if_pos h7]
end Go.VC
namespace Go.VC.cG
open Go Go.VC Go.Proofs
def Us:ea:={tt:=tt,n:=106,n0:=3,qC:=[91,92],own:=[6,41],iT:=XS.iT}
def ZI{de dc H G:D}{wr:Bool}{s t:Ty}(al:Ty.le 4294967295 s)(c8:Ty.le 4294967295 t)(B:s.rR)(x:t.rR)(fh:s.fl.length<=1048576/\t.fl.length<=1048576){c:Int}{a1 a2:S}{a3 a4:D}{T:Int}{b1 b2:S}{j b4:D}(hs:cD s c a1 a2 a3 a4)(ht:cD t T b1 b2 j b4)
 {K:PV->List Ob->Prop} (m:∀r b,me (jZ s t) r b->K (.tup [.row 111 3,.bool b]) (qR de dc H G wr r)):
 FT 104 (qO de dc H G wr) [.box 0 0,dO c a1 a2 a3 a4,dO T b1 b2 j b4] K:=by
 obtain⟨W,s1,s2,o,n⟩:=id hs;obtain⟨t0,t1,t2,p,y⟩:=id ht;have V:s.fl.length<=4294967295:=by cases al;assumption
 have ab:t.fl.length<=4294967295:=by cases c8;assumption
 have h:jZ s t=none->K (.tup [.row 111 3,.bool false]) (qR de dc H G wr (.list [])):=λe=>m _ _ (me.no e);refine el Us Tryz.func104 λA C L X=>?_;have Y:=fz X.a;have Z:=qH X.a;have v:A.not (A.eq c T)= !(s.k==t.k):=by rw[Y,Z,W,t0]
 have w:A.eq c 5=(s.k==5):=by rw[Z,W]
 have E:A.eq c 6=(s.k==6):=by rw[Z,W]
 have I:A.eq c 7=(s.k==7):=by rw[Z,W]
 have U:A.eq c 8=(s.k==8):=by rw[Z,W]
 have el:A.not (A.eq (A.len a3) (A.len j))= !(s.ar.length==t.ar.length):=by rw[Y,Z,X.a,o,p,da,da,cM];simp[GU]
 cbv;by_cases hk:s.k=t.k
 ·have v:A.not (A.eq c T)=false:=by rw[v];simpa using hk
  by_cases h5:s.k=5
  ·have has:=B.a (.inl h5);have a:=x.a (.inl (by rw[<- hk];exact h5));have el:A.not (A.eq (A.len a3) (A.len j))=false:=by rw[el,has,a];rfl
   have has:0<s.ar.length:=yO;have a:0<t.ar.length:=yO;have w:A.eq c 5=true:=by rw[w];simpa using h5
   have i1:A.idx 0 (A.len a3):=by rw[X.a,o];exact cY (i:=0) has
   have i2:A.idx 0 (A.len j):=by rw[X.a,p];exact cY (i:=0) a
   have q1:=j5 (gT X.a o has) (gT X.a p a);repeat' (first|apply bq|exact zf|(intro J;first|exact yB v J|exact yB el J|exact yB w J|cbv)|apply bE)
   all_goals try first|exact i1|exact i2
   refine m _ _ (me.yes (Hz hk h5) ?_);rw[qB has,qB a];refine iu (congrArg (λz=>A.lit [z]) q1) ?_;rw[X.a];rfl
  have w:A.eq c 5=false:=by rw[w];simpa using h5
  by_cases h6:s.k=6
  ·have has:=(B.r (.inl h6)).1;have a:=(x.r (.inl (by rw[<- hk];exact h6))).1;have el:A.not (A.eq (A.len a3) (A.len j))=false:=by rw[el,has,a];rfl
   have E:A.eq c 6=true:=by rw[E];simpa using h6
   have O:=Hy hk h6;have P:eg true s.fl t.fl=none->K (.tup [.row 111 3,.bool false]) (qR de dc H G wr (.list [])):=λe=>m _ _ (me.no (by rw[O];exact e));have R:∀l r,eg true s.fl t.fl=some l->r=bA eB l->K (.tup [.row 111 3,.bool true]) (qR de dc H G wr r):=λl r e u=>m _ _ (me.yes (by rw[O];exact e) u);clear m h;repeat' (first|apply bq|exact zf|(intro J;first|exact yB v J|exact yB el J|exact yB w J|exact yB E J|cbv)|apply bE|(refine X.call (Nh y n fh.2 V (λe=>?_) (λl r e ag u=>?_));cbv))
   ·exact P e
   all_goals (
    refine p1 ?_;exact R _ _ e u)
  have E:A.eq c 6=false:=by rw[E];simpa using h6
  by_cases h7:s.k=7
  ·have has:=(B.r (.inr h7)).1;have a:=(x.r (.inr (by rw[<- hk];exact h7))).1;have el:A.not (A.eq (A.len a3) (A.len j))=false:=by rw[el,has,a];rfl
   have I:A.eq c 7=true:=by rw[I];simpa using h7
   have O:=Hx hk h7;have P:eg false t.fl s.fl=none->K (.tup [.row 111 3,.bool false]) (qR de dc H G wr (.list [])):=λe=>m _ _ (me.no (by rw[O];exact e));have R:∀l r,eg false t.fl s.fl=some l->r=bA eB l->K (.tup [.row 111 3,.bool true]) (qR de dc H G wr r):=λl r e u=>m _ _ (me.yes (by rw[O];exact e) u);clear m h;repeat' (first|apply bq|exact zf|(intro J;first|exact yB v J|exact yB el J|exact yB w J|exact yB E J|exact yB I J|cbv)|apply bE|(refine X.call (Ng n y fh.1 ab (λe=>?_) (λl r e ag u=>?_));cbv))
   ·exact P e
   all_goals (
    refine p1 ?_;exact R _ _ e u)
  have I:A.eq c 7=false:=by rw[I];simpa using h7
  by_cases h8:s.k=8
  ·have has:=B.a (.inr h8);have a:=x.a (.inr (by rw[<- hk];exact h8));have el:A.not (A.eq (A.len a3) (A.len j))=false:=by rw[el,has,a];rfl
   have has:0<s.ar.length:=yO;have a:0<t.ar.length:=yO;have U:A.eq c 8=true:=by rw[U];simpa using h8
   have i1:A.idx 0 (A.len a3):=by rw[X.a,o];exact cY (i:=0) has
   have i2:A.idx 0 (A.len j):=by rw[X.a,p];exact cY (i:=0) a
   have q1:=j5 (gT X.a o has) (gT X.a p a);have O:=Hw hk h8;rw[O]at h m;obtain⟨q,M,g⟩:=lenOf n;repeat' (first|apply bq|exact zf|(intro J;first|exact yB v J|exact yB el J|exact yB w J|exact yB E J|exact yB I J|exact yB U J|cbv)|apply bE)
   refine lP X (λk=>k<=q/\(s.fl.take k).all (λf=>(dD t.fl f.s).isSome||f.b)=true) (λk=>q-k) 0 ⟨bB _,rfl⟩ [0,1,2,3,4,5] (λ(k:Nat)=>⟨[(65,.int .i64 k),(64,.int .i64 (A.len a4)),(63,.lst 57 a4),(5,.box 5 0),(4,.box 4 0)],[.box [.lst 97 de,.lst 73 dc,.mp 1,.row 9 3],.map .str 4 H,.dead,.row 9 G wr,.box [.int .i64 c,.str a1,.str a2,.lst 29 a3,.lst 57 a4],.box [.int .i64 T,.str b1,.str b2,.lst 29 j,.lst 57 b4]]⟩) ?_;rintro k ⟨ae,Q⟩;cbv;constructor<;>intro h1
   ·have d:k<s.fl.length:=lY X.a g h1;have k1:=iR X.a n d;have k0:=k1.1;have kb:=k1.2.2;have ak:=iX X.a n d;have ah:=jX X.a d;have N:((dD t.fl s.fl[k].s).isSome||s.fl[k].b)=false->JR s t=none:=λe=>by unfold JR;rw[HJ d e];rfl
    have aj:((dD t.fl s.fl[k].s).isSome||s.fl[k].b)=true->(s.fl.take (k+1)).all (λf=>(dD t.fl f.s).isSome||f.b)=true:=λe=>mW d Q e;clear h1;cbv;repeat' (first|apply bq|exact zf|(intro J;cbv)|apply bE|(refine X.call (Pv y ab k0 λg0 g1 g2 g3 g4 g5 g6 b hg hb=>?_);cbv))
    all_goals try first|exact ak|exact ah
    all_goals first
     |(have z:A.not b=true:=yA
       have F:A.not (A.asBool (A.cell a4 (bk k) 6))=true:=yA;rw[Y,hb]at z;rw[Y,kb]at F;exact h (N (by simp at z F;simp[z,F])))
     |(have e:((dD t.fl s.fl[k].s).isSome||s.fl[k].b)=true:=by
        first
         |(have z:A.not b=false:=yA
           rw[Y,hb]at z;have z:(dD t.fl s.fl[k].s).isSome=true:=yU z;rw[z];rfl)
         |(have F:A.not (A.asBool (A.cell a4 (bk k) 6))=false:=yA
           rw[Y,kb]at F;have F:s.fl[k].b=true:=yU F;rw[F,wX])
       exact⟨k+1,⟨yO,aj e⟩,yO,[0,1,2,3,4,5],rfl,yc⟩)
     |skip
   ·have d:k=q:=gY X.a g h1;rw[d,M,bD]at Q;have hF:JR s t=(eg false s.fl t.fl).map (· ++[(rI s.ar,rI t.ar)]):=by unfold JR DG;rw[Q,if_pos rfl]
    rw[hF]at m;clear h1 ae d h;cbv;refine X.call (Nf y n fh.2 V (λe=>?_) (λl r e ao u=>?_))
    ·rw[e]at m;cbv;repeat' (first|apply bq|exact zf|(intro J;cbv)|apply bE)
     all_goals try first|exact i1|exact i2
     all_goals first
      |exact m _ _ (me.no rfl)
      |(show A.gh _ _;rw[X.a];simp only[SD];decide)
      |skip
     all_goals trace_state
    ·rw[e]at m;have hB:∀row:List D,A.gh (A.add (A.len r) (A.len (A.lit [row]))) 4294967296:=λrow=>by rw[X.a,u];simp only[SD];omega
     have aa:A.app r (A.lit [[.int (A.asInt (A.cell a3 0 0)),.str (A.bH (A.cell a3 0 1)),.str (A.bH (A.cell a3 0 2)),A.cell a3 0 3,A.cell a3 0 4,.int (A.asInt (A.cell j 0 0)),.str (A.bH (A.cell j 0 1)),.str (A.bH (A.cell j 0 2)),A.cell j 0 3,A.cell j 0 4]])=bA eB (l++[(rI s.ar,rI t.ar)]):=by rw[qB has,qB a];refine iu (congrArg (λz=>A.app r (A.lit [z])) q1) ?_;rw[X.a,u];exact cB (k:=[(s.ar[0],t.ar[0])])
     cbv;repeat' (first|apply bq|exact zf|(intro J;cbv)|apply bE)
     all_goals try first|exact i1|exact i2|exact hB _
     all_goals first
      |exact m _ _ (me.yes rfl aa)
      |skip
     all_goals trace_state
  have U:A.eq c 8=false:=by rw[U];simpa using h8
  repeat' (first|apply bq|exact zf|(intro J;first|exact yB v J|exact yB w J|exact yB E J|exact yB I J|exact yB U J|cbv)|apply bE)
  all_goals exact h (Hu h5 h6 h7 h8)
 ·have v:A.not (A.eq c T)=true:=by rw[v];simpa using hk
  repeat' (first|apply bq|exact zf|(intro J;first|exact yB v J|cbv)|apply bE)
  all_goals exact h (Hv hk)
def Ur:ea:={tt:=tt,n:=149,n0:=3,iT:=XR.iT,own:=[6,17],nh:=[5],qC:=[64,65,66]}
def ZH{env:List IF}{de:D}(he:de=bA dC env)(ek:eH env){dc W dt:D}{wr:Bool}{s t:Ty}(ba:Ty.le 4294967295 s)(c8:Ty.le 4294967295 t)(fh:s.ar.length<=1048576){N:Int}{a1 a2:S}{a3 a4:D}{G:Int}{b1 b2:S}{m b4:D}(hs:cD s N a1 a2 a3 a4)(ht:cD t G b1 b2 m b4)
 {K:PV->List Ob->Prop} (h:∀r b,me (kL env s t) r b->K (.tup [.row 111 3,.bool b]) (qR de dc W dt wr r)):
 FT 105 (qO de dc W dt wr) [.box 0 0,dO N a1 a2 a3 a4,dO G b1 b2 m b4] K:=by
 have hn:kL env s t=none->K (.tup [.row 111 3,.bool false]) (qR de dc W dt wr (.list [])):=λe=>h _ _ (me.no e);obtain⟨s0,s1,s2,F,a8⟩:=id hs;obtain⟨t0,t1,t2,O,be⟩:=id ht;refine el Ur Tryz.func105 λA C L X=>?_;have Y:=fz X.a;have Z:=qH X.a;have aa:=Nw X.a;by_cases hk:s.k≠10\/t.k≠10
 ·have q:=hn (by unfold kL;rw[if_pos hk])
  have ed:A.not (A.eq N 10)=true\/A.not (A.eq G 10)=true:=by
   rcases hk with hk|hk
   ·exact .inl (by rw[Y,Z,s0];simpa using hk)
   ·exact .inr (by rw[Y,Z,t0];simpa using hk)
  clear hn h;cbv;repeat' (first|apply bq|exact zf|(intro J;first|(exfalso;rcases ed with ed|ed<;>first|exact absurd (ed.symm.trans (show A.not (A.eq N 10)=false by assumption)) yD|exact absurd (ed.symm.trans (show A.not (A.eq G 10)=false by assumption)) yD)|cbv)|apply bE|exact q)
 have aE:s.k=10:=by
  rcases pF (s.k=10)with e|e
  ·exact e
  ·exact absurd (.inl e) hk
 have aw:t.k=10:=by
  rcases pF (t.k=10)with e|e
  ·exact e
  ·exact absurd (.inr e) hk
 have es:A.not (A.eq N 10)=false:=by rw[Y,Z,s0,aE];rfl
 have et:A.not (A.eq G 10)=false:=by rw[Y,Z,t0,aw];rfl
 cbv;repeat' (first|apply bq|exact zf|(intro J;first|exact yB es J|exact yB et J|cbv)|apply bE|(refine X.call (Vq (n:=a2) he ek λr0 w r2 hr=>?_);cbv))
 refine X.call (Vq (n:=b2) he ek λR T Q u=>?_);cbv
 refine X.cut (λ(z:(S×D×Int×S×S×D×D×Int×S×S×D×D)×S×Int)=>⟨[(16,.int .i64 z.2.2),(15,.str z.2.1),(14,.box 6 0),(13,.int .i64 Q),(12,.str T),(11,.str R),(10,.int .i64 r2),(9,.str w),(8,.str r0),(5,.box 5 0),(4,.box 4 0)],[.box [.lst 97 de,.lst 73 dc,.mp 1,.row 9 3],.map .str 4 W,.dead,.row 9 dt wr,.box [.int .i64 N,.str a1,.str a2,.lst 29 a3,.lst 57 a4],.box [.int .i64 G,.str b1,.str b2,.lst 29 m,.lst 57 b4],.box [.str z.1.1,.lst 73 z.1.2.1,.int .i64 z.1.2.2.1,.str z.1.2.2.2.1,.str z.1.2.2.2.2.1,.lst 29 z.1.2.2.2.2.2.1,.lst 57 z.1.2.2.2.2.2.2.1,.int .i64 z.1.2.2.2.2.2.2.2.1,.str z.1.2.2.2.2.2.2.2.2.1,.str z.1.2.2.2.2.2.2.2.2.2.1,.lst 29 z.1.2.2.2.2.2.2.2.2.2.2.1,.lst 57 z.1.2.2.2.2.2.2.2.2.2.2.2]]⟩)
  (λz=>o4 (di env a1 a2).1 z.1.1 z.1.2.1 z.1.2.2.1 z.1.2.2.2.1 z.1.2.2.2.2.1 z.1.2.2.2.2.2.1 z.1.2.2.2.2.2.2.1 z.1.2.2.2.2.2.2.2.1 z.1.2.2.2.2.2.2.2.2.1 z.1.2.2.2.2.2.2.2.2.2.1 z.1.2.2.2.2.2.2.2.2.2.2.1 z.1.2.2.2.2.2.2.2.2.2.2.2/\z.2.2=(di env a1 a2).2.2) ?_ ?_
 ·cbv;repeat' (first|apply bq|exact zf|(intro J;cbv)|apply bE|(refine X.call (SP he ek λw0 c w2 w3 w4 w5 w6 w7 w8 w9 P M x1 E V bd o=>?_);cbv))
  all_goals (
   exact⟨((w0,c,w2,w3,w4,w5,w6,w7,w8,w9,P,M),x1,E),⟨V,o⟩,[0,1,2,3,4,5,7],rfl,yc⟩)
 rintro⟨⟨w0,c,w2,w3,w4,w5,w6,w7,w8,w9,P,M⟩,x1,E⟩ ⟨V,o⟩;simp only at V o;obtain⟨ps,I⟩:∃ps,ps=(di env a1 a2).1.params:=⟨_,rfl⟩;have v:c=bA eU ps:=by rw[I];exact V.2.1
 have U:(r0,w,r2)=ff env s.m s.n:=by rw[<- s1,<-s2];unfold ff;exact hr
 have ad:(R,T,Q)=ff env t.m t.n:=by rw[<- t1,<-t2];unfold ff;exact u
 have B:E=(di env s.m s.n).2.2:=by rw[<- s1,<-s2];exact o
 have x:ps=(di env s.m s.n).1.params:=by rw[<- s1,<-s2];exact I
 have hp:=Du hk U ad B x;clear U ad B x;clear hr u V o I;have ls:A.len a3=bk s.ar.length:=iW X.a F;have lt:A.len m=bk t.ar.length:=iW X.a O;have lw:A.len c=bk ps.length:=iW X.a v;have c1:A.not (A.eq r2 0)=decide (r2≠0):=by rw[Y,Z,cM];simp
 have c2:A.not (A.eq Q 0)=decide (Q≠0):=by rw[Y,Z,cM];simp
 have c3:A.not (A.eq E 0)=decide (E≠0):=by rw[Y,Z,cM];simp
 have c4:A.not (A.seq r0 R)=decide (r0≠R):=by rw[Y,aa,cM];simp
 have c5:A.not (A.seq w T)=decide (w≠T):=by rw[Y,aa,cM];simp
 have c6:A.not (A.eq (A.len c) (A.len a3))=decide (s.ar.length≠ps.length):=by rw[Y,Z,ls,lw,cM];simp;omega
 have c7:A.not (A.eq (A.len a3) (A.len m))=decide (t.ar.length≠s.ar.length):=by rw[Y,Z,ls,lt,cM];simp;omega
 by_cases a:r2≠0\/Q≠0\/E≠0\/r0≠R\/w≠T\/s.ar.length≠ps.length\/t.ar.length≠ps.length
 ·have q:=hn (by rw[hp,if_pos a]);cbv;repeat' (first|apply bq|exact zf|(intro J;cbv)|apply bE)
  all_goals first
   |exact q
   |(exfalso
     have g:A.not (A.eq r2 0)=false:=yA;have i:A.not (A.eq Q 0)=false:=yA;have z3:A.not (A.eq E 0)=false:=yA;have z4:A.not (A.seq r0 R)=false:=yA;have z5:A.not (A.seq w T)=false:=yA;have z6:A.not (A.eq (A.len c) (A.len a3))=false:=yA;have z7:A.not (A.eq (A.len a3) (A.len m))=false:=yA;have g:=of_decide_eq_false (c1.symm.trans g);have i:=of_decide_eq_false (c2.symm.trans i);have z3:=of_decide_eq_false (c3.symm.trans z3);have z4:=of_decide_eq_false (c4.symm.trans z4);have z5:=of_decide_eq_false (c5.symm.trans z5);have z6:=of_decide_eq_false (c6.symm.trans z6);have z7:=of_decide_eq_false (c7.symm.trans z7);rcases a with e|e|e|e|e|e|e
     ·exact g e
     ·exact i e
     ·exact z3 e
     ·exact z4 e
     ·exact z5 e
     ·exact z6 e
     ·omega)
   |skip
 rw[if_neg a]at hp;have a:(¬ r2≠0)/\(¬ Q≠0)/\(¬ E≠0)/\(¬ r0≠R)/\(¬ w≠T)/\(¬ s.ar.length≠ps.length)/\(¬ t.ar.length≠ps.length):=by refine⟨λe=>a ?_,λe=>a ?_,λe=>a ?_,λe=>a ?_,λe=>a ?_,λe=>a ?_,λe=>a ?_⟩<;>simp[e]
 obtain⟨d1,d2,d3,d4,d5,d6,d7⟩:=a;have c1:=c1.trans (decide_eq_false d1);have c2:=c2.trans (decide_eq_false d2);have c3:=c3.trans (decide_eq_false d3);have c4:=c4.trans (decide_eq_false d4);have c5:=c5.trans (decide_eq_false d5);have c6:=c6.trans (decide_eq_false d6);have c7:=c7.trans (decide_eq_false yO);have bf:s.ar.length=ps.length:=yO;have a6:t.ar.length=ps.length:=yO;clear d1 d2 d3 d4 d5 d6 d7;cbv;repeat' (first|apply bq|exact zf|(intro J;first|exact yB c1 J|exact yB c2 J|exact yB c3 J|exact yB c4 J|exact yB c5 J|exact yB c6 J|exact yB c7 J|cbv)|apply bE)
 obtain⟨p,H,f⟩:=lenOf v;refine lP X (λy=>y.1<=p/\mV ps s.ar t.ar=y.2.1++mV (ps.drop y.1) (s.ar.drop y.1) (t.ar.drop y.1)/\y.2.1.length<=2*y.1/\y.2.2=bA eB y.2.1) (λy=>p-y.1) (0,[],.list []) ⟨bB _,rfl,cg _,rfl⟩ [0,1,2,3,4,5,6,7] (λ(y:Nat×List Jm×D)=>⟨[(108,.int .i64 y.1),(107,.int .i64 (A.len c)),(106,.lst 73 c),(17,.row 111 7),(14,.box 6 0),(5,.box 5 0),(4,.box 4 0)],[.box [.lst 97 de,.lst 73 dc,.mp 1,.row 9 3],.map .str 4 W,.dead,.row 9 dt wr,.box [.int .i64 N,.str a1,.str a2,.lst 29 a3,.lst 57 a4],.box [.int .i64 G,.str b1,.str b2,.lst 29 m,.lst 57 b4],.box [.str w0,.lst 73 c,.int .i64 w2,.str w3,.str w4,.lst 29 w5,.lst 57 w6,.int .i64 w7,.str w8,.str w9,.lst 29 P,.lst 57 M],.row 111 y.2.2 true]⟩) ?_;rintro⟨k,j,r⟩ ⟨aq,u,ap,hr⟩;simp only at aq u ap hr;cbv;constructor<;>intro h1
 ·have h5:k<ps.length:=lY X.a f h1;have h6:k<s.ar.length:=yO;have h7:k<t.ar.length:=yO;have k1:=(Dv X.a v h5).2;have y1:=gT X.a F h6;have y2:=gT X.a O h7;have aD:=iX X.a v h5;have ao:=iX X.a F h6;have aK:=iX X.a O h7;have aH:=jX X.a h5;have f1:A.not (A.eq (A.asInt (A.cell c (bk k) 1)) 1)=decide (ps[k].var≠1):=by rw[Y,Z,k1,cM];simp
  have f2:A.not (A.eq (A.asInt (A.cell c (bk k) 1)) 0)=decide (ps[k].var≠0):=by rw[Y,Z,k1,cM];simp
  have hB:∀row:List D,A.gh (A.add (A.len r) (A.len (A.lit [row]))) 4294967296:=λrow=>by rw[X.a,hr];simp only[SD];omega
  have w:=j5 y1 y2;have r2:=j5 y2 y1;have p1:∀(d:D)(l:List Jm),d=bA eB l->A.app d (A.lit [eB (s.ar[k],t.ar[k])])=bA eB (l++[(s.ar[k],t.ar[k])]):=λd l e=>by rw[X.a,e];exact cB (k:=[(s.ar[k],t.ar[k])])
  have p2:∀(d:D)(l:List Jm),d=bA eB l->A.app d (A.lit [eB (t.ar[k],s.ar[k])])=bA eB (l++[(t.ar[k],s.ar[k])]):=λd l e=>by rw[X.a,e];exact cB (k:=[(t.ar[k],s.ar[k])])
  rw[<- w]at p1;rw[<- r2]at p2;have ax:∀(row:List D),A.gh (A.add (A.len (A.app r (A.lit [[.int (A.asInt (A.cell a3 (bk k) 0)),.str (A.bH (A.cell a3 (bk k) 1)),.str (A.bH (A.cell a3 (bk k) 2)),A.cell a3 (bk k) 3,A.cell a3 (bk k) 4,.int (A.asInt (A.cell m (bk k) 0)),.str (A.bH (A.cell m (bk k) 1)),.str (A.bH (A.cell m (bk k) 2)),A.cell m (bk k) 3,A.cell m (bk k) 4]]))) (A.len (A.lit [row]))) 4294967296:=λrow=>by rw[p1 r j hr,X.a];simp only[SD];omega
  rw[O4 h5 h6 h7,<-bI]at u;have bc:=NG ps[k].var s.ar[k] t.ar[k];clear h1;cbv;repeat' (first|apply bq|exact zf|(intro J;cbv)|apply bE)
  all_goals try first|exact aD|exact ao|exact aK|exact aH|exact hB _|exact ax _
  all_goals first
   |(have g:A.not (A.eq (A.asInt (A.cell c (bk k) 1)) 1)=true:=yA
     have i:A.not (A.eq (A.asInt (A.cell c (bk k) 1)) 0)=true:=yA;rw[f1]at g;rw[f2]at i;have ev:EW ps[k].var s.ar[k] t.ar[k]=[(s.ar[k],t.ar[k])]++[(t.ar[k],s.ar[k])]:=by unfold EW;rw[if_pos (of_decide_eq_true g),if_pos (of_decide_eq_true i)]
     have q:=p2 _ _ (p1 _ _ hr);rw[bI,<-ev]at q;exact⟨(k+1,j++EW ps[k].var s.ar[k] t.ar[k],_),⟨yP,u,yL,q⟩,yP,[0,1,2,3,4,5,6,7],rfl,yc⟩)
   |(have g:A.not (A.eq (A.asInt (A.cell c (bk k) 1)) 1)=true:=yA
     have i:A.not (A.eq (A.asInt (A.cell c (bk k) 1)) 0)=false:=yA;rw[f1]at g;rw[f2]at i;have ev:EW ps[k].var s.ar[k] t.ar[k]=[(s.ar[k],t.ar[k])]:=by unfold EW;rw[if_pos (of_decide_eq_true g),if_neg (of_decide_eq_false i)];rfl
     have q:=p1 _ _ hr;rw[<- ev]at q;exact⟨(k+1,j++EW ps[k].var s.ar[k] t.ar[k],_),⟨yP,u,yL,q⟩,yP,[0,1,2,3,4,5,6,7],rfl,yc⟩)
   |(have g:A.not (A.eq (A.asInt (A.cell c (bk k) 1)) 1)=false:=yA
     have i:A.not (A.eq (A.asInt (A.cell c (bk k) 1)) 0)=true:=yA;rw[f1]at g;rw[f2]at i;have ev:EW ps[k].var s.ar[k] t.ar[k]=[(t.ar[k],s.ar[k])]:=by unfold EW;rw[if_neg (of_decide_eq_false g),if_pos (of_decide_eq_true i)];rfl
     have q:=p2 _ _ hr;rw[<- ev]at q;exact⟨(k+1,j++EW ps[k].var s.ar[k] t.ar[k],_),⟨yP,u,yL,q⟩,yP,[0,1,2,3,4,5,6,7],rfl,yc⟩)
   |(have g:A.not (A.eq (A.asInt (A.cell c (bk k) 1)) 1)=false:=yA
     have i:A.not (A.eq (A.asInt (A.cell c (bk k) 1)) 0)=false:=yA;rw[f1]at g;rw[f2]at i;have ev:EW ps[k].var s.ar[k] t.ar[k]=[]:=by unfold EW;rw[if_neg (of_decide_eq_false g),if_neg (of_decide_eq_false i)];rfl
     have q:r=bA eB (j++EW ps[k].var s.ar[k] t.ar[k]):=by rw[ev,cA];exact hr
     exact⟨(k+1,j++EW ps[k].var s.ar[k] t.ar[k],_),⟨yP,u,yL,q⟩,yP,[0,1,2,3,4,5,6,7],rfl,yc⟩)
   |skip
 ·have h5:k=p:=gY X.a f h1;rw[h5,H,My (ps:=ps.drop ps.length) yS,cA]at u;have q:=h r true (me.yes (by rw[hp,u]) hr);cbv;exact q
end Go.VC.cG
namespace Go.VC
open Go
def Cf:∀(m u:Nat),u<10 ^ (m+1)->(Lib.decDigits u).length<=m+1
 |0,u,h=>by rw[Lib.decDigits,dif_pos yO];simp
 |m+1,u,h=>by
  rw[Lib.decDigits];split
  ·simp
  ·have:u/10<10 ^ (m+1):=by rw[Nat.pow_succ]at h;omega
   have:=Cf m (u/10) this;rw[bt];simp;omega
def qZ{n:Int}(h0:0<=n)(h:n<10000000):(oe n).length<=8:=by unfold oe Lib.itoa;rw[if_neg yO,bt];have:=Cf 6 n.toNat yO;simp;omega
structure Ty.Nu (u:Ty):Prop where
 mi:u.mi
 k:0<=u.k/\u.k<=10
 a:u.ar.length<=1048576
 f:u.fl.length<=1048576
mutual
def Fb:∀t:Ty,(∀u∈t.all,u.Nu)->t.wr.length+1100000<=3300000*t.size
 | .mk k m n ar fl,h=>by have hs:=h _ (gy _);have h1:=GX ar λu hu=>h u (by rw[Ty.all];simp[hu]);have J:=G0 fl (λu hu=>h u (by rw[Ty.all];simp[hu])) hs.mi.f;have a1:=qZ hs.k.1 (by have:=hs.k.2;omega);have a2:=qZ (n:=(m.length:Int)) yO (by have:m.length<=1048576:=hs.mi.m;omega);have a3:=qZ (n:=(n.length:Int)) yO (by have:n.length<=1048576:=hs.mi.n;omega);have a4:=qZ (n:=(ar.length:Int)) yO (by have:ar.length<=1048576:=hs.a;omega);have a5:=qZ (n:=(fl.length:Int)) yO (by have:fl.length<=1048576:=hs.f;omega);have b1:m.length<=1048576:=hs.mi.m;have b2:n.length<=1048576:=hs.mi.n;simp only[Ty.k]at a1;rw[Ty.wr,Ty.size];simp only[bt];omega
def OK:∀t:Fe,(∀u∈t.all,u.Nu)->t.s.length<=1048576->t.wr.length<=3300000*t.size
 | .mk s t b,h,hs=>by
  have h1:=Fb t λu hu=>h u (by rw[Fe.all];exact hu);have hs:s.length<=1048576:=hs;have a1:(Lib.itoa (s.length:Int)).length<=7:=by unfold Lib.itoa;rw[if_neg yO];exact Cf 6 _ yO
  have a2:(Lib.formatBool b).length<=5:=by cases b<;>decide
  rw[Fe.wr,Fe.size];simp only[bt];omega
def GX:∀l:List Ty,(∀u∈Ty.uo l,u.Nu)->(Ty.p9 l).length<=3300000*Ty.r7 l
 |[],h=>by simp[Ty.p9]
 |t::l,h=>by have h1:=Fb t λu hu=>h u (by rw[Ty.uo];simp[hu]);have J:=GX l λu hu=>h u (by rw[Ty.uo];simp[hu]);rw[Ty.p9,Ty.r7,bt];omega
def G0:∀l:List Fe,(∀u∈Ty.uq l,u.Nu)->(∀f∈l,f.s.length<=1048576)->(Ty.sv l).length<=3300000*Ty.r8 l
 |[],h,_=>by simp[Ty.sv]
 |t::l,h,hs=>by have h1:=OK t (λu hu=>h u (by rw[Ty.uq];simp[hu])) (hs t yS);have J:=G0 l (λu hu=>h u (by rw[Ty.uq];simp[hu])) λf hf=>hs f (by simp[hf]);rw[Ty.sv,Ty.r8,bt];omega
end
def EE:∀(t:Ty){u:Ty},u∈t.all->u.size<=t.size:=by
 refine Ty.gj (P:=λt=>∀{u:Ty},u∈t.all->u.size<=t.size) λt b u hu=>?_;rw[all_eq]at hu;rcases bN.1 hu with rfl|hu
 ·exact cg _
 ·obtain⟨v,a,hu⟩:=dp.1 hu;have h1:=b v a hu;have J:=Ku a;omega
def Ct.wr{t:Ty}(h:Ct t)(hs:t.size<=200):t.wr.length<=660000000:=by
 have key:∀u∈t.all,u.Nu:=λu hu=>by
  have h1:u.size<=t.size:=EE t hu;have J:=iU u;have h3:u.er.length=u.ar.length+u.fl.length:=by simp[Ty.er]
  exact⟨h.mi u hu,(h.rR u hu).k,yO,yO⟩
 have:=Fb t key;omega
end Go.VC
namespace Go.VC
def rcl:Nat->PV
 |0=>.cy 1000103 [.box 0 0]
 |1=>.cy 1000104 [.box 0 0]
 |2=>.cy 1000105 [.box 0 0]
 |3=>.cy 1000106 [.box 0 0]
 |_=>.cy 1000107 [.box 0 0]
end Go.VC
namespace Go.VC.cG
open Go Go.VC Go.Proofs
def W4:ea:={tt:=tt,n:=91,n0:=3,iT:=g49.iT,live:=[102,103,104,105,106,107,108],nh:=[11,12]}
open Classical in
def F49{env:List IF}{de:D}(he:de=bA dC env)(ek:eH env){ctx:List Pm}{dc:D}(hc:dc=bA eU ctx)(mZ:ctx.length<=4294967295){C:List Ty}(hC:Bh env ctx C):∀n,Co env ctx C de dc n:=by
 intro n;induction n with
 |zero=>intro s t g b m dm dt V a0 a1 a2 a3 a4 b0 b1 b2 b3 b4 K P R a;rw[pw]at a;cases a
 |succ n ih=>
 intro s t g b m dm dt V a0 a1 a2 a3 a4 b0 b1 b2 b3 b4 K P R a hI o ak az hs ht h;have B:=hC.ct s P;have H:=hC.ct t R;have aV:=hC.sz s P;have a8:=hC.sz t R;have bg:=B.wr aV;have lA:=H.wr a8;obtain⟨aX,a6⟩:=hI.Tb hC;simp only at aX a6;rw[pw]at a;have am:=hC.closed;refine el W4 Tryz.func49 λA C2 L X=>?_;have Y:=fz X.a;have ap:=I6 X.a;cbv;refine X.call (ZK B.le H.le (λu hu=>(B.rR u hu).k) (λu hu=>(H.rR u hu).k) yO hs ht λkey i=>?_);have i:key=ja (s,t):=i;have M:A.mJ dm (.str key)=(fJ m (ja (s,t))).isSome:=by rw[i,X.a,ak];exact lx (f:=λb=>[.bool b])
 have U:∀v,fJ m (ja (s,t))=some v->A.asBool (A.fc dm (.str key) 0)=v:=λv hv=>by rw[i,X.a,ak];show Std.asBool (Std.fc (bA (fx λb=>[.bool b]) m) _ 0)=v;rw[ly hv];rfl
 have c:=o.lk (s,t);cbv;constructor<;>intro S
 ·have S:=M.symm.trans S;obtain⟨v,hv⟩:=eQ.1 S;have hg:=U v hv;rw[hv]at c
  have q:=h v m dm dt (by
   by_cases e1:(s,t)∈g
   ·rw[if_pos e1]at c;rw[if_neg (hI.d _ e1),if_pos e1]at a;cases c;cases a;rfl
   ·rw[if_neg e1]at c;by_cases e2:(s,t)∈b
    ·rw[if_pos e2]at c;rw[if_pos e2]at a;cases c;cases a;rfl
    ·rw[if_neg e2]at c;cases c) (by
   have:V.2=(g,b):=by
    by_cases e2:(s,t)∈b
    ·rw[if_pos e2]at a;cases a;rfl
    ·rw[if_neg e2]at a;by_cases e1:(s,t)∈g
     ·rw[if_pos e1]at a;cases a;rfl
     ·rw[if_neg e1,if_neg e2]at c;cases c
   rw[this];exact o) ak (by
   have:V.2=(g,b):=by
    by_cases e2:(s,t)∈b
    ·rw[if_pos e2]at a;cases a;rfl
    ·rw[if_neg e2]at a;by_cases e1:(s,t)∈g
     ·rw[if_pos e1]at a;cases a;rfl
     ·rw[if_neg e1,if_neg e2]at c;cases c
   rw[this];exact az)
  rw[<- hg]at q;clear U M;cbv;exact q
 have S:=M.symm.trans S
 have aD:(s,t)∉b:=λe=>by
  rw[if_pos e]at c;by_cases e1:(s,t)∈g
  ·rw[if_pos e1]at c;rw[c]at S;cases S
  ·rw[if_neg e1]at c;rw[c]at S;cases S
 have ai:(s,t)∉g:=λe=>by rw[if_pos e]at c;rw[c]at S;cases S
 rw[if_neg aD,if_neg ai]at a;obtain⟨dec,T⟩:∃dec,dec=pw (lF env ctx) n:=⟨_,rfl⟩;have a:gA dec (lF env ctx s t) (s,t) g (mf 1) b=some V:=by rw[T];exact a
 clear M U c S;have ao:A.lU dm (.str key) [.bool true]=bA cO (iP (ja (s,t)) true m):=by rw[i,X.a,ak];exact lq (f:=λb:Bool=>[.bool b])
 have aB:∀d m',d=bA cO m'->A.lU d (.str key) [.bool false]=bA cO (iP (ja (s,t)) false m'):=λd m' e=>by rw[i,X.a,e];exact lq (f:=λb:Bool=>[.bool b])
 have ac:A.app dt (A.lit [[.str key]])=bA encS ((g++[(s,t)]).map ja):=by rw[i,X.a,az,cj];exact cB (k:=[ja (s,t)])
 have F:A.len (A.app dt (A.lit [[.str key]]))=bk (g.length+1):=by rw[ac,X.a,da];simp
 have N:A.sub (A.len (A.app dt (A.lit [[.str key]]))) 1=bk g.length:=by rw[F,X.a];show bk (g.length+1)-1=_;simp only[bz];omega
 have aJ:A.inr .i64 (A.sub (A.len (A.app dt (A.lit [[.str key]]))) 1):=by rw[N,X.a];simp only[SD];omega
 have aY:A.gh (A.add (A.len dt) (A.len (A.lit [[.str key]]))) 4294967296:=by rw[X.a,az];simp only[SD,bL];omega
 have aZ:((g++[(s,t)]).map ja).length=g.length+1:=yS
 skip
 refine p1 ?_;refine lP X (λy=>y.1<=5/\gA dec (lF env ctx s t) (s,t) g (mf (y.1+1)) y.2.1=some V/\gH C (g,y.2.1)/\(s,t)∉y.2.1/\(∃m,MK m (g++[(s,t)]) y.2.1/\y.2.2.1=bA cO m)/\y.2.2.2=bA encS ((g++[(s,t)]).map ja)) (λy=>5-y.1) (0,b,A.lU dm (.str key) [.bool true],A.app dt (A.lit [[.str key]])) ⟨yP,a,hI,aD,⟨_,o.push,ao⟩,ac⟩ [0,1,2,3,4,5] (λ(y:Nat×(List Jm×D×D))=>⟨[(59,.int .i64 y.1),(58,.agg [.cy 1000103 [.box 0 0],.cy 1000104 [.box 0 0],.cy 1000105 [.box 0 0],.cy 1000106 [.box 0 0],.cy 1000107 [.box 0 0]]),(9,.cy 102 [.box 4 0]),(8,.int .i64 (A.len (A.app dt (A.lit [[.str key]])))),(5,.str key),(3,.box 5 0),(2,.box 4 0)],[.box [.lst 97 de,.lst 73 dc,.mp 1,.row 9 3],.map .str 4 y.2.2.1,.dead,.row 9 y.2.2.2 true,.box [.box 0 0],.box [.int .i64 a0,.str a1,.str a2,.lst 29 a3,.lst 57 a4,.int .i64 b0,.str b1,.str b2,.lst 29 b3,.lst 57 b4]]⟩) ?_;clear a hI o ao ac aY aD;rintro⟨k,bl,aK,aM⟩ ⟨hk,p,hI,aj,⟨mk,o,I⟩,O⟩;simp only at hk p hI aj o I O;obtain⟨_,aL⟩:=hI.Tb hC;simp only at aL;cbv;constructor<;>intro h1
 ·have bo:k<=4:=by have h1:A.lt (bk k) 5=true:=h1;rw[ap]at h1;have:=of_decide_eq_true h1;simp only[bz]at this;omega
  have aN:A.inr .i64 (A.add (bk k) 1):=by rw[X.a];exact fm (n:=6) yO yO
  rw[tF ⟨yO,yO⟩]at p;clear h1;cbv;refine X.cut (λ(_:Unit)=>⟨[(11,rcl k),(59,.int .i64 k),(58,.agg [.cy 1000103 [.box 0 0],.cy 1000104 [.box 0 0],.cy 1000105 [.box 0 0],.cy 1000106 [.box 0 0],.cy 1000107 [.box 0 0]]),(9,.cy 102 [.box 4 0]),(8,.int .i64 (A.len (A.app dt (A.lit [[.str key]])))),(5,.str key),(3,.box 5 0),(2,.box 4 0)],[.box [.lst 97 de,.lst 73 dc,.mp 1,.row 9 3],.map .str 4 aK,.dead,.row 9 aM true,.box [.box 0 0],.box [.int .i64 a0,.str a1,.str a2,.lst 29 a3,.lst 57 a4,.int .i64 b0,.str b1,.str b2,.lst 29 b3,.lst 57 b4]]⟩) (λ_=>True) ?_ ?_
  ·have W:k=0\/k=1\/k=2\/k=3\/k=4:=yO;rcases W with rfl|rfl|rfl|rfl|rfl
   all_goals (
    cbv;repeat' (first|apply bq|exact zf|(intro J;cbv)|apply bE)
    all_goals first
     |(exact⟨(),trivial,[0,1,2,3,4,5],rfl,yc⟩
       done)
     |skip)
   all_goals trace_state
  intro _ _;cbv;refine X.cut (λ(z:D×Bool)=>⟨[(13,.bool z.2),(12,.row 111 6),(59,.int .i64 k),(58,.agg [.cy 1000103 [.box 0 0],.cy 1000104 [.box 0 0],.cy 1000105 [.box 0 0],.cy 1000106 [.box 0 0],.cy 1000107 [.box 0 0]]),(9,.cy 102 [.box 4 0]),(8,.int .i64 (A.len (A.app dt (A.lit [[.str key]])))),(5,.str key),(3,.box 5 0),(2,.box 4 0)],[.box [.lst 97 de,.lst 73 dc,.mp 1,.row 9 3],.map .str 4 aK,.dead,.row 9 aM true,.box [.box 0 0],.box [.int .i64 a0,.str a1,.str a2,.lst 29 a3,.lst 57 a4,.int .i64 b0,.str b1,.str b2,.lst 29 b3,.lst 57 b4],.row 111 z.1 true]⟩) (λz=>me (lF env ctx s t (k+1)) z.1 z.2) ?_ ?_
  ·have W:k=0\/k=1\/k=2\/k=3\/k=4:=yO
   have ay:s.fl.length<=1048576/\t.fl.length<=1048576/\s.ar.length<=1048576:=by
    have J:=iU s;have h3:s.er.length=s.ar.length+s.fl.length:=by simp[Ty.er]
    have h4:=iU t;have h5:t.er.length=t.ar.length+t.fl.length:=by simp[Ty.er]
    omega
   rcases W with rfl|rfl|rfl|rfl|rfl
   ·cbv;refine X.call (ZJ hs ht λr b hA=>?_);cbv;exact⟨(r,b),hA,[0,1,2,7,4,5,6],rfl,yc⟩
   ·cbv;refine X.call (ZI B.le H.le (B.rR s (gy s)) (H.rR t (gy t)) ⟨ay.1,ay.2.1⟩ hs ht λr b hA=>?_);cbv;exact⟨(r,b),hA,[0,1,2,7,4,5,6],rfl,yc⟩
   ·cbv;refine X.call (ZH he ek B.le H.le ay.2.2 hs ht λr b hA=>?_);cbv;exact⟨(r,b),hA,[0,1,2,7,4,5,6],rfl,yc⟩
   ·cbv;refine X.call (ZG he ek hc mZ B.le hs ht λr b hA=>?_);cbv;exact⟨(r,b),hA,[0,1,2,7,4,5,6],rfl,yc⟩
   ·cbv;refine X.call (ZF he ek H.le hs ht λr b hA=>?_);cbv;exact⟨(r,b),hA,[0,1,2,7,4,5,6],rfl,yc⟩
  rintro⟨rl,kb⟩ ⟨ad,ax⟩;simp only at ad ax;cases E:lF env ctx s t (k+1)with
  |none=>
   rw[E]at ad;obtain rfl:kb=false:=ad;rw[Dm E]at p;cbv;repeat' (first|apply bq|exact zf|(intro J;first|exact absurd (((rfl:(false:Bool)=false)).symm.trans J) yD|cbv)|apply bE|(refine X.call (Sy I O yO F yO yO λaw aC e1 e2=>?_);cbv))
   all_goals try exact aN
   refine⟨(k+1,bl,aw,aC),⟨yP,p,hI,aj,⟨mk,o,?_⟩,?_⟩,yP,[0,1,2,7,4,5],rfl,?_⟩
   ·rw[e1,fo yO];rfl
   ·rw[e2,db yO]
   exact yc
  |some l=>
   rw[E]at ad;obtain rfl:kb=true:=ad;have a0:=ax l E;have aI:=am s P t R (k+1) l E;obtain⟨q,aA,a5,aW⟩:=Dk E p;have ae:gH C (g++[(s,t)],bl):=hI.push P R ai aj
   have bn:l.length<=100000:=by
    have h1:=xP E;have J:=iU s;have h3:s.er.length=s.ar.length+s.fl.length:=by simp[Ty.er]
    have h4:=iU t;have h5:t.er.length=t.ar.length+t.fl.length:=by simp[Ty.er]
    omega
   have a7:=xB (λj g b r x1 x2 x3 x4=>zc am n j g b r x1 x2 x3 (by rw[<- T];exact x4)) l _ _ q aI ae aA;obtain⟨⟨x,hx⟩,_,aH⟩:=a7;obtain⟨bh,bj⟩:=aH.Tb hC;rw[T]at aA;clear ax p;cbv;repeat' (first|apply bq|exact zf|(intro J;first|exact absurd (((rfl:(true:Bool)=true)).symm.trans J) yD|cbv)|apply bE)
   refine X.call (ZE hC ih a0 yO aI aA ae o I O λr m' aw aC hr ar aq an=>?_);have aT:A.not false=true:=by rw[Y];rfl
   have a9:A.not true=false:=by rw[Y];rfl
   cases aa:q.1 with
   |true=>
    have af:=a5 aa;obtain rfl:r=false:=by rw[hr,aa];rfl
    have Q:=h true m' aw aC (by rw[af,aa]) (by rw[af];exact ar) aq (by rw[af];exact an);cbv;repeat' (first|apply bq|exact zf|(intro J;first|exact yB aT J|cbv)|apply bE)
    all_goals exact Q
   |false=>
    have af:=aW aa;obtain rfl:r=true:=by rw[hr,aa];rfl
    have bm:(q.2.1.map ja).length=g.length+1+x.length:=by rw[hx];simp;omega
    have bd:q.2.1.length=g.length+1+x.length:=by rw[hx];simp;omega
    cbv;repeat' (first|apply bq|exact zf|(intro J;first|exact yB a9 J|cbv)|apply bE|(refine X.call (Sy aq an yO F yO yO λav au e1 e2=>?_);cbv))
    all_goals try exact aN
    all_goals (
     have aU:MK m' (g++[(s,t)]++x) q.2.2:=by rw[<- hx];exact ar
     have G:(q.2.1.map ja).drop (g.length+1)=x.map ja:=by rw[hx,cj];exact List.drop_left' yS
     have w:(q.2.1.map ja).take (g.length+1)=(g++[(s,t)]).map ja:=by rw[hx,cj];exact List.take_left' yS
     have al:gH C (g++[(s,t)]++x,q.2.2):=by rw[<- hx];exact aH
     refine⟨(k+1,q.2.2,av,au),⟨yP,af,?_,?_,⟨_,aU.del al.g al.d,by rw[e1,G]⟩,by rw[e2,w]⟩,yP,?_⟩
     ·have:gH C (g++([(s,t)]++x),q.2.2):=by rw[<- bI];exact al
      exact this.back
     ·exact al.d _ yS
     first
      |(exact⟨[0,1,2,8,4,5],rfl,yc⟩
        done)
      |trace_state)
 ·have W:k=5:=by have h1:A.lt (bk k) 5=false:=h1;rw[ap]at h1;have:=of_decide_eq_false h1;simp only[bz]at this;omega
  rw[W,sb,gA]at p;cases p;clear h1;cbv;repeat' (first|apply bq|exact zf|(intro J;cbv)|apply bE|(refine X.call (Sy I O yO N yO yO λav au e1 e2=>?_);cbv))
  all_goals try exact aJ
  all_goals (
   have G:((g++[(s,t)]).map ja).drop g.length=[(s,t)].map ja:=by rw[cj];exact List.drop_left' yS
   have w:((g++[(s,t)]).map ja).take g.length=g.map ja:=by rw[cj];exact List.take_left' yS
   have ae:gH C (g++[(s,t)],bl):=hI.push P R ai aj;have Q:=h false _ _ au rfl ((o.del ae.g ae.d).bad ai) (aB av _ (by rw[e1,G])) (by rw[e2,w]);exact Q)
def XC:ea:={tt:=tt,n:=20,own:=[13],live:=[49]}
def Z9{env:List IF}{de:D}(he:de=bA dC env)(ek:eH env){ctx:List Pm}{dc:D}(hc:dc=bA eU ctx)(mZ:ctx.length<=4294967295){C:List Ty}(hC:Bh env ctx C){s t:Ty}(c:s∈C)(d:t∈C){a:Bool}(b:Qj env ctx C s t a)
 {e:Int}{a1 a2:S}{a3 a4:D}{f:Int}{b1 b2:S}{i g:D} (hs:cD s e a1 a2 a3 a4) (k:cD t f b1 b2 i g) {K:PV->List Ob->Prop} (h:∀r,r=a->K (.bool r) []):
 FT 14 [] [.lst 97 de,.lst 73 dc,dO e a1 a2 a3 a4,dO f b1 b2 i g] K:=by
 obtain⟨n,m,o⟩:=b;refine en XC Tryz.func14 λA C L X=>?_;cbv;refine X.call (F49 he ek hc mZ hC n c d o gH.nil MK.nil rfl rfl hs k λr m' l j hr _ _ _=>?_);cbv;exact h _ hr
end Go.VC.cG
namespace Go.VC
def lT(env:List IF)(ts:List Ty):List Ty:=ts++env.flatMap eL
end Go.VC
namespace Go.VC.cG
open Go Go.VC Go.Proofs
def Xj:ea:={tt:=tt,n:=92,iT:=g27.iT,own:=[14,30,44],live:=[0]}
open Classical in
def F27{env:List IF}{de:D}(he:de=bA dC env)(ek:eH env)(eO:∀i∈env,i.fit)(aK:∀i∈env,(eL i).length<=4294967290){ts:List Ty}{O:D}(ar:O=bA cq ts)(lA:∀t∈lT env ts,Wt t)(aG:(lT env ts).length<=4000000000){K:PV->List Ob->Prop}
 (h:∀b,(b=true->∃C,JA env (lT env ts) C)->K (.bool b) []):
 FT 27 [] [.lst 97 de,.lst 29 O] K:=by
 obtain⟨L,hL⟩:∃L,L=lT env ts:=⟨_,rfl⟩;rw[<- hL]at lA aG h;refine FC.enter (G:=Xj) k9 mixed ⟨Tryz.func27,by rfl,rfl⟩ rfl rfl rfl ?_;intro A C X1 X;have Y:=fz X.a;have Z:=qH X.a;have Q:=I6 X.a;have ba:∀a b:Int,A.le a b=decide (a<=b):=by rw[X.a];exactλ_ _=>rfl
 have be:ts.length<=L.length:=by rw[hL];unfold lT;simp
 have aJ:A.gh (A.add (A.len (A.lit [])) (A.len O)) 4294967296:=by rw[X.a,ar];simp only[SD];omega
 have e0:A.app (A.lit []) O=bA cq ts:=by rw[X.a,ar];exact cB (l:=[])
 obtain⟨I,ag,v⟩:=lenOf he;refine p1 ?_;refine lP X (λy=>y.1<=I/\y.2=bA cq (ts++(env.take y.1).flatMap eL)) (λy=>I-y.1) (0,A.app (A.lit []) O) ⟨bB _,by simp only[e0];simp⟩ [0] (λ(y:Nat×D)=>⟨[(6,.int .i64 y.1),(5,.row 29 0),(0,.lst 97 de)],[.row 29 y.2 true]⟩) ?_;rintro⟨i,dw⟩ ⟨hi,z⟩;simp only at hi z;cbv;constructor<;>intro h1
 ·have h5:i<env.length:=lY X.a v h1;have aQ:=iX X.a he h5;have aY:A.inr .i64 (A.add (bk i) 1):=by rw[X.a];exact fm h5 (by have:=ek.1;omega)
  have k1:=mL X.a he h5
  have R:(ts++(env.take (i+1)).flatMap eL).length<=L.length:=by
   rw[hL];unfold lT;rw[bt,bt]
   have:(env.take (i+1)).flatMap eL=(env.flatMap eL).take ((env.take (i+1)).flatMap eL).length:=by
    conv=>rhs;rw[<- cX (i+1) env,eD]
    simp
   have J:=congrArg iS this;rw[cJ]at J;omega
  have e1:∀r,r=bA cq (eL env[i])->A.app dw r=bA cq (ts++(env.take (i+1)).flatMap eL):=λr hr=>by rw[X.a,z,hr,cb h5,eD,<-bI];simp only[fP,List.flatMap_nil,cA];exact cB
  have aZ:∀r,r=bA cq (eL env[i])->A.gh (A.add (A.len dw) (A.len r)) 4294967296:=λr hr=>by rw[cb h5,eD]at R;simp only[fP,List.flatMap_nil,cA,bt]at R;rw[X.a,z,hr];simp only[SD,bt];omega
  clear h1;cbv;repeat' (first|apply bq|exact zf|(intro J;cbv)|apply bE|(refine X.call (Z4 k1 (eO _ (bu h5)).ok (aK _ (bu h5)) λr hr=>?_);cbv))
  all_goals try first|exact aQ|exact aY|exact aZ _ yA
  exact⟨(i+1,_),⟨yP,e1 _ hr⟩,yP,[0],rfl,yc⟩
 have h5:i=I:=gY X.a v h1;have z:dw=bA cq L:=by rw[z,h5,ag,bD,hL];rfl
 clear h1 h5 e0 aJ;cbv;refine lP X (λy=>Tm env L y.1.1 y.1.2/\y.2.1=bA cq y.1.2/\y.2.2=bA cq y.1.1) (λy=>QC L y.1.1 y.1.2) (([],L),dw,A.lit []) ⟨Tm.start lA,z,yX⟩ [0,1] (λ(y:(List Ty×List Ty)×D×D)=>⟨[(7,.row 29 1),(5,.row 29 0),(0,.lst 97 de)],[.row 29 y.2.1 true,.row 29 y.2.2 true]⟩) ?_;clear z hi;rintro⟨⟨w,W⟩,c,H⟩ ⟨hT,hW,hK⟩;simp only at hT hW hK;have aX:=hT.wl;have bb:=hT.len;obtain⟨aa,ae,d⟩:=lenOf hW;obtain⟨B,M,g⟩:=lenOf hK;cbv;constructor<;>intro h1
 ·have P:0<W.length:=lY X.a d h1;obtain⟨p,t,rfl⟩:∃p t,W=p++[t]:=⟨W.dropLast,W.getLast (by intro e;rw[e]at P;simp at P),(mX _).symm⟩;have T:=hT.wt t yS;have E:aa=p.length+1:=by rw[ae];simp
  have s:A.sub (A.len c) 1=bk p.length:=by
   have:A.len c=bk (p.length+1):=by rw[X.a,d,E]
   rw[this,X.a];show bk (p.length+1)-1=_;simp only[bz];omega
  have a4:A.inr .i64 (A.sub (A.len c) 1):=by rw[s,X.a];simp only[SD];omega
  have a1:A.idx (A.sub (A.len c) 1) (A.len c):=by rw[s,X.a,hW];exact cY yS
  have a2:A.idx 0 (A.len c):=by rw[X.a,hW];exact cY (i:=0) P
  have a5:A.gh (A.sub (A.len c) 1) (A.len c):=by rw[s,X.a,d];simp only[SD];omega
  have x:A.part c 0 (A.sub (A.len c) 1)=bA cq p:=by rw[s,X.a,hW];have:=oQ (f:=cq) (l:=p++[t]) (a:=0) (b:=p.length);simpa using this
  have kt:cD t (A.asInt (A.cell c (A.sub (A.len c) 1) 0)) (A.bH (A.cell c (A.sub (A.len c) 1) 1)) (A.bH (A.cell c (A.sub (A.len c) 1) 2)) (A.cell c (A.sub (A.len c) 1) 3) (A.cell c (A.sub (A.len c) 1) 4):=by rw[s];have:=gT X.a hW (i:=p.length) yS;simpa using this
  clear h1;have az:∀u∈w,Ty.le 4294967295 u:=hT.WH;refine p1 ?_;refine lP X (λy=>y.1<=B/\y.2=decide (t∈w.take y.1)) (λy=>B-y.1) (0,false) ⟨bB _,yS⟩ [0,1,2] (λ(y:Nat×Bool)=>⟨[(10,.int .i64 y.1),(9,.bool y.2),(8,.box 2 0),(7,.row 29 1),(5,.row 29 0),(0,.lst 97 de)],[.row 29 (A.part c 0 (A.sub (A.len c) 1)) true,.row 29 H true,.box [.int .i64 (A.asInt (A.cell c (A.sub (A.len c) 1) 0)),.str (A.bH (A.cell c (A.sub (A.len c) 1) 1)),.str (A.bH (A.cell c (A.sub (A.len c) 1) 2)),.lst 29 (A.cell c (A.sub (A.len c) 1) 3),.lst 57 (A.cell c (A.sub (A.len c) 1) 4)]]⟩) ?_;rintro⟨i,sn⟩ ⟨hi,F⟩;simp only at hi F;have am:sn=true->Tm env L w p:=λe=>hT.seen (by rw[F]at e;exact mq (of_decide_eq_true e))
  have ay:¬A.lt (bk i) (A.len H)=true->sn=false->t∉w:=λe1 e2=>by
   have h5:i=B:=by
    by_cases h6:i<B
    ·exact absurd (by rw[Q,X.a,g];simpa using h6) e1
    ·omega
   rw[h5,M,bD]at F;rw[e2]at F;exact of_decide_eq_false F.symm
  have ah:A.lt (bk i) (A.len H)=true->i<w.length:=λe=>by rw[Q,X.a,g]at e;have:=of_decide_eq_true e;simp only[bz]at this;omega
  have E:A.not false=true:=by rw[Y];rfl
  have V:A.not true=false:=by rw[Y];rfl
  cases sn with
  |true=>
   have aV:=am rfl;cbv;repeat' (first|apply bq|exact zf|(intro J;first|exact yB E J|exact yB V J|exact absurd (((rfl:(true:Bool)=true)).symm.trans J) yD|cbv)|apply bE)
   all_goals (
    exact⟨((w,p),A.part c 0 (A.sub (A.len c) 1),H),⟨aV,x,hK⟩,Kb,[0,1],rfl,yc⟩)
  |false=>
   have ax:A.lt (bk i) (A.len H)=true->A.idx (bk i) (A.len H):=λe=>by rw[X.a,hK];exact cY (ah e)
   have aq:A.lt (bk i) (A.len H)=true->A.inr .i64 (A.add (bk i) 1):=λe=>by have:=ah e;rw[X.a];exact fm (n:=w.length) this yO
   by_cases j:A.lt (bk i) (A.len H)=true
   ·have h5:=ah j;have k1:=gT X.a hK h5;have l1:=az _ (bu h5);have e9:=ax j;have aN:=aq j;cbv;repeat' (first|apply bq|exact zf|(intro J;first|exact yB E J|exact yB V J|exact yB j J|exact absurd (((rfl:(false:Bool)=false)).symm.trans J) yD|cbv)|apply bE|(refine X.call (F62 _ l1 k1 kt λb hb=>?_);cbv))
    all_goals try first|exact e9|exact aN
    refine⟨(i+1,b),⟨yP,?_⟩,yP,[0,1,2],rfl,?_⟩
    ·rw[hb,cb h5,cM,decide_eq_true_iff,fX];have aP:t∉w.take i:=of_decide_eq_false F.symm;constructor
     ·intro e;exact dI _ (by simp[e])
     ·intro e;rcases bG.1 e with e|e
      ·exact absurd e aP
      ·simp at e;exact e.symm
    exact yc
   ·have a7:=ay j rfl;have ab:A.lt (bk i) (A.len H)=false:=yU j;have al:A.len H=bk w.length:=by rw[X.a,g,M]
    have m:A.eq (A.len H) 120=decide (w.length=120):=by rw[Z,al,cM];simp;omega
    have av:∀r:Int,A.lt 200 r=decide (200<r):=λr=>Q _ _;have ap:=h false (λe=>yC e);have a3:p.length<=4100000000:=by simp only[bt,bM,bX]at aX;omega
    have dG:[D.int (A.asInt (A.cell c (A.sub (A.len c) 1) 0)),.str (A.bH (A.cell c (A.sub (A.len c) 1) 1)),.str (A.bH (A.cell c (A.sub (A.len c) 1) 2)),A.cell c (A.sub (A.len c) 1) 3,A.cell c (A.sub (A.len c) 1) 4]=cq t:=by obtain⟨f0,f1,f2,f3,f4⟩:=kt;rw[f0,f1,f2,f3,f4,dk]
    have eK:A.app H (A.lit [[D.int (A.asInt (A.cell c (A.sub (A.len c) 1) 0)),.str (A.bH (A.cell c (A.sub (A.len c) 1) 1)),.str (A.bH (A.cell c (A.sub (A.len c) 1) 2)),A.cell c (A.sub (A.len c) 1) 3,A.cell c (A.sub (A.len c) 1) 4]])=bA cq (w++[t]):=by rw[dG,X.a,hK];exact cB (k:=[t])
    have bK:A.gh (A.add (A.len H) (A.len (A.lit [[D.int (A.asInt (A.cell c (A.sub (A.len c) 1) 0)),.str (A.bH (A.cell c (A.sub (A.len c) 1) 1)),.str (A.bH (A.cell c (A.sub (A.len c) 1) 2)),A.cell c (A.sub (A.len c) 1) 3,A.cell c (A.sub (A.len c) 1) 4]]))) 4294967296:=by rw[al,X.a];simp only[SD];omega
    by_cases N:w.length=120
    ·have m:=m.trans (decide_eq_true N);cbv;repeat' (first|apply bq|exact zf|(intro J;first|exact yB E J|exact yB V J|exact yB ab J|exact yB m J|exact absurd (((rfl:(false:Bool)=false)).symm.trans J) yD|cbv)|apply bE)
     all_goals exact ap
    ·have m:=m.trans (decide_eq_false N);have bc:=iU t;have a9:=T.sz;have o:w.length<120:=yO;have ao:∀r:Int,r=(t.size:Int)->A.lt 200 r=false->t.size<=200:=λr e1 e2=>by rw[av,e1]at e2;have:=of_decide_eq_false e2;omega
     have eW:∀q,q=bA cq t.er->A.app (A.part c 0 (A.sub (A.len c) 1)) q=bA cq (p++t.er):=λq hq=>by rw[x,X.a,hq];exact cB
     have bW:∀q,q=bA cq t.er->t.size<=200->A.gh (A.add (A.len (A.part c 0 (A.sub (A.len c) 1))) (A.len q)) 4294967296:=λq hq hz=>by rw[x,X.a,hq];simp only[SD];omega
     have aW:∀q au ak,q=bA cq t.er->t.size<=200->A.gh (A.add (A.len (A.app (A.part c 0 (A.sub (A.len c) 1)) q)) (A.len (A.lit [au,ak]))) 4294967296:=λq r1 r2 hq hz=>by rw[eW q hq,X.a];simp only[SD,bt];omega
     cbv;repeat' (first|apply bq|exact zf|(intro J;first|exact yB E J|exact yB V J|exact yB ab J|exact yB m J|exact absurd (((rfl:(false:Bool)=false)).symm.trans J) yD|cbv)|apply bE|(refine X.call (Wn t T.le T.sz kt λr hr=>?_);cbv)|(refine X.call (Z2 T.le yO kt λq hq=>?_);cbv)|(refine X.call (F63 he ek T.le kt λu0 u1 u2 u3 u4 g0 g1 g2 g3 g4 r2 aH aS aj=>?_);cbv))
     all_goals try first|exact ap|exact bK
     all_goals (
      have hz:t.size<=200:=ao r hr yA
      first
       |exact bW _ yA hz
       |exact aW _ _ _ yA hz
       |(have U:A.eq r2 0=true:=yA
         have U:(cQ env t).2.2=0:=by rw[Z,aj]at U;simpa using U
         have S:=hT.new eO o hz;have eS:og env t=t.er++[(cQ env t).1,(cQ env t).2.1]:=by unfold og;rw[if_pos U]
         refine⟨((w++[t],p++og env t),A.app (A.app (A.part c 0 (A.sub (A.len c) 1)) q) (A.lit [[.int u0,.str u1,.str u2,u3,u4],[.int g0,.str g1,.str g2,g3,g4]]),_),⟨S,?_,eK⟩,Hf S o,[0,1],rfl,?_⟩
         ·show A.app (A.app (A.part c 0 (A.sub (A.len c) 1)) q) (A.lit [[.int u0,.str u1,.str u2,u3,u4],[.int g0,.str g1,.str g2,g3,g4]])=bA cq (p++og env t);have f1:[D.int u0,.str u1,.str u2,u3,u4]=cq (cQ env t).1:=by obtain⟨f0,f1,f2,f3,f4⟩:=aH;rw[f0,f1,f2,f3,f4,dk]
          have f2:[D.int g0,.str g1,.str g2,g3,g4]=cq (cQ env t).2.1:=by obtain⟨f0,f1,f2,f3,f4⟩:=aS;rw[f0,f1,f2,f3,f4,dk]
          rw[eW q hq,f1,f2,X.a,eS,<-bI];exact cB (k:=[(cQ env t).1,(cQ env t).2.1])
         exact yc)
       |(have U:A.eq r2 0=false:=yA
         have U:¬(cQ env t).2.2=0:=by rw[Z,aj]at U;simpa using U
         have S:=hT.new eO o hz;have eS:og env t=t.er:=by unfold og;rw[if_neg U,cA]
         refine⟨((w++[t],p++og env t),A.app (A.part c 0 (A.sub (A.len c) 1)) q,_),⟨S,?_,eK⟩,Hf S o,[0,1],rfl,?_⟩
         ·show A.app (A.part c 0 (A.sub (A.len c) 1)) q=bA cq (p++og env t);rw[eW q hq,eS]
         exact yc)
       |trace_state)
 ·have aL:W=[]:=by
   have:aa=0:=by obtain rfl:=X.a;simp only[d,SD]at h1;omega
   exact bY yO
  subst aL;have q:=h true (λ_=>⟨w,hT.fin⟩);cbv;exact q
end Go.VC.cG
namespace Go.VC
open Classical
open Go.VC.cG
section
variable {env:List IF}{C:List Ty}{i:IF}{x:TE}{ctx:List Pm}{s t:Ty}{p:S}{l:List TE}
noncomputable def LA(env:List IF)(ctx:List Pm)(s t:Ty):Bool:=if h:∃b,Qj env ctx [] s t b then h.choose else false
def yy(hC:Bh env ctx C)(hs:s∈C)(c:t∈C):Qj env ctx C s t (LA env ctx s t):=by
 have a:∃b,Qj env ctx [] s t b:=by obtain⟨r,hr,_⟩:=H4 hC.closed (kM C []+1) (s,t) [] [] hs c gH.nil (Nat.lt_succ_self _);exact⟨r.1,_,r.2,hr⟩
 unfold LA;rw[dif_pos a];exact a.choose_spec
def Dy(ctx:List Pm):List Pm:=ctx.map λp=>⟨p.name,0,p.bound⟩
def Ew(env:List IF)(ctx:List Pm)(t:Ty):jB env (Dy ctx) t=jB env ctx t:=by
 unfold jB Dy
 have:∀(l:List Pm),((l.map λp=>(⟨p.name,0,p.bound⟩:Pm)).find? λp=>p.name==t.n).map Pm.bound=(l.find? λp=>p.name==t.n).map Pm.bound:=by
  intro l;induction l with
  |nil=>rfl
  |cons p l a=>
   rw[bJ,cH,cH];show (match p.name==t.n with|true=>_|false=>_:Option Pm).map Pm.bound=_;cases p.name==t.n with
   |true=>rfl
   |false=>exact a
 rw[this]
def IS(env:List IF)(ctx:List Pm):lF env (Dy ctx)=lF env ctx:=by funext s t r;unfold lF tK;rw[Ew]
def Qj.op{b:Bool}(h:Qj env ctx C s t b):Qj env (Dy ctx) C s t b:=by unfold Qj;rw[IS];exact h
def Bh.op(h:Bh env ctx C):Bh env (Dy ctx) C:=⟨h.len,h.ct,h.sz,h.er,h.gh,λp a=>by obtain⟨q,b,rfl⟩:=bP.1 a;exact h.ctx q b⟩
noncomputable def uI(env:List IF)(p:S):List TE->Option (S×S×Int)
 |[]=>none
 |x::l=>if LA env x.params x.lower x.upper=false then some (p,x.name,13)else uI env p l
noncomputable def xn(env:List IF):List IF->Option (S×S×Int)
 |[]=>none
 |i::l=>match uI env i.path i.types with
  |some r=>some r
  |none=>xn env l
noncomputable def sx(env:List IF):S×S×Int:=if(pX env).2≠0 then((pX env).1,[],(pX env).2)else(xn env env).getD ([],[],0)
def vN:∀{k:Nat}{l:List Pm},nM mr k l=0->∀p∈l,p.bound=Ty.zero
 |_,[],_,p,a=>yE a
 |k,q::l,h,p,a=>by
  rw[nM]at h;split at h
  ·cases h
  ·split at h
   ·cases h
   ·rename_i b;rcases bN.1 a with rfl|a
    ·unfold mr at b;simp only[fU,not_or,zz]at b;exact fX.1 (yU b.2)
    ·exact vN h p a
def JA.Qc(h:JA env (lT env []) C)(g:wj env)(eO:∀i∈env,i.fit)(m:i∈env)(n:x∈i.types):∃d,Bh env x.params d/\x.lower∈d/\x.upper∈d:=by
 obtain⟨a,b⟩:=Ct.ty g eO m n;obtain⟨_,_,_,_,_,f⟩:=xh ((g.ok i m).t x n)
 have hz:∀p∈x.params,p.bound=Ty.zero:=by
  unfold jR at f;split at f
  ·cases f
  ·exact vN f
 have e:∀t∈fe x,t∈lT env []:=λt c=>by unfold lT;rw[jg];refine dp.2 ⟨i,m,?_⟩;unfold eL;exact dF _ (dp.2 ⟨x,n,c⟩)
 obtain⟨d,h1,J⟩:=h.clo (ctx:=x.params) g eO (k:=fe x) (λt c=>⟨e t c,by
  unfold fe at c;rcases bG.1 c with c|c
  ·simp at c;rcases c with rfl|rfl
   ·exact a
   ·exact b
  ·obtain⟨p,j,rfl⟩:=bP.1 c;rw[hz p j];exact Ct.zero⟩) (λp j=>by unfold fe;exact dI _ (bP.2 ⟨p,j,rfl⟩))
 exact⟨d,h1,J _ (by simp[fe]),J _ (by simp[fe])⟩
def OQ(b:wj env)(c:i∈env)(d:x∈i.types):x.params.length<=8:=by
 obtain⟨_,_,_,_,_,a⟩:=xh ((b.ok i c).t x d);unfold jR at a;split at a
 ·cases a
 ·omega
def xb(h:(pX env).2≠0):sx env=((pX env).1,[],(pX env).2):=by unfold sx;rw[if_pos h]
def Ip(h:(pX env).2=0):sx env=(xn env env).getD ([],[],0):=by unfold sx;rw[if_neg (yU h)]
def NP(h:LA env x.params x.lower x.upper=true):uI env p (x::l)=uI env p l:=by rw[uI,if_neg (by rw[h];decide)]
def Kj(h:LA env x.params x.lower x.upper=false):uI env p (x::l)=some (p,x.name,13):=by rw[uI,if_pos h]
def Kk{l:List IF}{r:S×S×Int}(h:uI env i.path i.types=some r):xn env (i::l)=some r:=by rw[xn,h]
def NR{l:List IF}(h:uI env i.path i.types=none):xn env (i::l)=xn env l:=by rw[xn,h]
end
end Go.VC
namespace Go.VC.cG
open Go Go.VC Go.Proofs
def F87{env:List IF}{de:D}(he:de=bA dC env)(ek:eH env)(eO:∀i∈env,i.fit)(lA:(env.map IF.wt).sum<=268435456)(hT:(pX env).2=0->∃C,JA env (lT env []) C){K:PV->List Ob->Prop}
 (h:∀(a b:S)(r:Int),(a,b,r)=sx env->K (.tup [.str a,.str b,.int .i64 r]) []):
 FT 87 [] [.lst 97 de] K:=by
 refine en g87 Tryz.func87 λA C L X=>?_;have Y:=fz X.a;have Z:=qH X.a;have o:=I6 X.a;obtain⟨d,t,c⟩:=lenOf he;cbv;refine X.call (Zl he ek eO lA λs r B=>?_);have w:A.not (A.eq r 0)=decide (¬ (pX env).2=0):=by rw[Y,Z,<-B,cM];simp
 by_cases e:(pX env).2=0
 rotate_left
 ·have w:=w.trans (decide_eq_true e);have q:=h s [] r (by rw[xb e,<-B]);cbv;repeat' (first|apply bq|exact zf|(intro J;first|exact yB w J|cbv)|apply bE)
  exact q
 have w:=w.trans (decide_eq_false (λf=>f e));have U:=LZ e;obtain⟨C0,O⟩:=hT e;rw[Ip e]at h;cbv;repeat' (first|apply bq|exact zf|(intro J;first|exact yB w J|cbv)|apply bE)
 refine lP X (λi=>i<=d/\xn env env=xn env (env.drop i)) (λi=>d-i) 0 ⟨bB _,rfl⟩ [] (λ(i:Nat)=>⟨[(22,.int .i64 i),(21,.int .i64 (A.len de)),(20,.lst 97 de),(0,.lst 97 de)],[]⟩) ?_;rintro i ⟨hi,I⟩;cbv;constructor<;>intro h1
 ·have h5:i<env.length:=lY X.a c h1;obtain⟨W,x1,_⟩:=mL X.a he h5;have v:=iX X.a he h5;have P:A.inr .i64 (A.add (bk i) 1):=by rw[X.a];exact fm h5 (by have:=ek.1;omega)
  have u:=bu h5;rw[bF h5]at I;obtain⟨V,rI⟩:∃V,V=A.cell de (bk i) 1:=⟨_,rfl⟩;have g:A.cell de (bk i) 1=bA fY env[i].types:=x1;obtain⟨n,p⟩:∃n,n=env[i].types.length:=⟨_,rfl⟩;have j:A.len (A.cell de (bk i) 1)=bk n:=by rw[g,X.a,da,p];rfl
  have ac:n<=4294967295:=by rw[p];exact(ek.2 _ u).nt
  clear h1;refine p1 ?_;refine lP X (λk=>k<=n/\uI env env[i].path env[i].types=uI env env[i].path (env[i].types.drop k)) (λk=>n-k) 0 ⟨bB _,rfl⟩ [0] (λ(k:Nat)=>⟨[(29,.int .i64 k),(28,.int .i64 (A.len (A.cell de (bk i) 1))),(27,.lst 136 (A.cell de (bk i) 1)),(22,.int .i64 i),(21,.int .i64 (A.len de)),(20,.lst 97 de),(8,.box 0 0),(0,.lst 97 de)],[.box [.str (A.bH (A.cell de (bk i) 0)),.lst 136 (A.cell de (bk i) 1),.lst 91 (A.cell de (bk i) 2),.lst 210 (A.cell de (bk i) 3),.lst 213 (A.cell de (bk i) 4)]]⟩) ?_;rintro k ⟨hk,l⟩;have R:A.lt (bk k) (A.len (A.cell de (bk i) 1))=true->k<env[i].types.length:=λz=>by rw[j,o]at z;have:=of_decide_eq_true z;simp only[bz]at this;omega
  by_cases c8:A.lt (bk k) (A.len (A.cell de (bk i) 1))=true
  ·have h6:=R c8;obtain⟨y0,y1,y2,y3⟩:=mz X.a g h6;have m:A.idx (bk k) (A.len (A.cell de (bk i) 1)):=by rw[g,X.a];exact cY h6
   have H:=jX X.a h6;have x:=bu h6;obtain⟨C1,G,F,y⟩:=O.Qc U eO u x;have aa:=OQ U u x;rw[bF h6]at l;have T:=yy G F y;cbv;repeat' (first|apply bq|exact zf|(intro J;first|exact yB c8 J|cbv)|apply bE)
   all_goals try first|exact v|exact m
   refine X.call (Z9 he ek y1 yO G F y T y2 y3 λb hb=>?_);have hb:b=LA env env[i].types[k].params env[i].types[k].lower env[i].types[k].upper:=hb;have Q:LA env env[i].types[k].params env[i].types[k].lower env[i].types[k].upper=false->K (.tup [.str (A.bH (A.cell de (bk i) 0)),.str (A.bH (A.cell (A.cell de (bk i) 1) (bk k) 0)),.int .i64 13]) []:=λz=>by rw[W,y0];exact h _ _ _ (by rw[I,Kk (l.trans (Kj z))];rfl)
   cbv;repeat' (first|apply bq|exact zf|(intro J;cbv)|apply bE)
   all_goals try first|exact v|exact m|exact H
   all_goals first
    |(have z:A.not b=true:=yA
      have z:LA env env[i].types[k].params env[i].types[k].lower env[i].types[k].upper=false:=by rw[Y,hb]at z;simpa using z
      exact Q z)
    |(have z:A.not b=false:=yA
      have z:LA env env[i].types[k].params env[i].types[k].lower env[i].types[k].upper=true:=by rw[Y,hb]at z;simpa using z
      exact⟨k+1,⟨yO,l.trans (NP z)⟩,yO,[0],rfl,yc⟩)
    |trace_state
  ·have E:A.lt (bk k) (A.len (A.cell de (bk i) 1))=false:=yU c8
   have M:k=n:=by
    by_cases h6:k<n
    ·exact absurd (by rw[j,o];simpa using h6) c8
    ·omega
   have N:uI env env[i].path env[i].types=none:=by rw[l,M,p,cd,uI]
   cbv;repeat' (first|apply bq|exact zf|(intro J;first|exact yB E J|cbv)|apply bE)
   all_goals try first|exact v|exact P
   exact⟨i+1,⟨yO,I.trans (NR N)⟩,yO,[],rfl,yc⟩
 ·have h5:i=d:=gY X.a c h1;have q:=h [] [] 0 (by rw[I,h5,t,cd,xn];rfl);cbv;exact q
end Go.VC.cG
