/- Part 5 of the common texts. -/
import Derived.Shelf.Strings.Builder1
import Derived.Test.YtflmompnagpjeaaGreatDoorPart4
set_option linter.all false
set_option maxRecDepth 100000
set_option maxHeartbeats 16000000
open And renaming intro→bk
open Array renaming size→Oe,size_map→DA
open Bool renaming and_false→oE,eq_iff_iff→cn,false_and→tp,not_false→tn,not_not→rX,or_assoc→vY,or_true→xz,true_and→iA
open Int renaming lt_trichotomy→p6,natCast_nonneg→eO,ofNat→bj,ofNat_eq_natCast→bD,ofNat_lt→sf,toNat_natCast→fp
open Int.ofNat renaming inj→AJ
open List renaming all_append→nI,all_cons→vX,all_eq_false→xy,all_eq_true→dE,any_cons→Ge,append_assoc→bL,append_inj→sd,append_nil→cz,cons_append→dL,countP_eq_length_filter→jf,countP_mono_left→KU,drop_eq_getElem_cons→bJ,drop_length→ch,eq_nil_of_length_eq_zero→cm,eraseP_cons→qj,eraseP_sublist→uS,find?_cons→cI,find?_eq_none→gg,find?_some→je,flatMap_append→ea,flatMap_cons→eJ,foldl_append→pQ,foldl_cons→fy,foldl_nil→DG,getD→cx,getElem?_eq_getElem→bu,getElem?_eq_none→bU,getElem?_eq_some_iff→dr,getElem?_map→cC,getElem?_of_mem→ig,getElem_mem→br,length→jJ,length_append→bp,length_cons→bI,length_erase_of_mem→Gd,length_filter_le→jo,length_flatMap→uQ,length_map→bA,length_nil→bZ,length_pos_of_mem→Jr,length_singleton→dW,length_take→cF,map_append→bS,map_congr_left→eF,map_cons→bF,map_nil→ie,mem_append→bE,mem_append_left→cy,mem_append_right→cP,mem_cons→bx,mem_cons_of_mem→jI,mem_erase_of_ne→K2,mem_filter→hZ,mem_flatMap→cb,mem_map→bH,mem_of_find?_eq_some→cE,mem_of_mem_take→tl,mem_range→k9,mem_singleton→cU,nodup_append→dk,nodup_cons→cq,not_mem_nil→gH,pairwise_iff_getElem→hX,perm_ext_iff_of_nodup→oB,range→dF,singleton_append→KQ,sum_append→dO,sum_cons→bV,sum_nil→oa,take_append_drop→cV,take_length→bz,take_of_length_le→ek,take_zero→DD
open List.Perm renaming eq_of_pairwise→AI
open Nat renaming add_assoc→fi,add_comm→Af,add_mul→dz,le_of_lt→KO,le_refl→bX,le_trans→bM,lt_of_le_of_lt→gS,lt_or_ge→bR,min_eq_left→Dy,one_mul→p4,zero_add→dY,zero_le→bw
open Option renaming getD_none→xv,getD_some→eR,isSome_iff_exists→eQ,isSome_map→Oc,map_some→cv
open Option.some renaming injEq→cw
open Or renaming inl→bB
open Prod renaming ext→fq
open UInt8 renaming ofNat→kG
namespace Go.VC
open Go
section
variable {a b:Int}{c d:UInt8}
def SI(l:S):Nat:=l.foldl (λa b=>10*a+(b.toNat-48)) 0
def nX(b:UInt8):Prop:=48<=b.toNat/\b.toNat<=57
def Fx{i:Nat}(h:i<10):nX (kG (48+i))/\(kG (48+i)).toNat-48=i:=by
 have:(kG (48+i)).toNat=48+i:=by simp[UInt8.toNat_ofNat'];omega
 unfold nX;rw[this];omega
def iR:∀(u:Nat),(∀b∈Lib.decDigits u,nX b)/\SI (Lib.decDigits u)=u/\Lib.decDigits u≠[]:=by
 intro u;induction u using Nat.strongRecOn with
 |_ u f=>
  rw[Lib.decDigits];split
  ·rename_i h;obtain⟨h1,J⟩:=Fx h;exact⟨λb hb=>by rw[cU]at hb;subst hb;exact h1,by simp only[SI,fy,DG,J];omega,yS⟩
  ·rename_i h;obtain⟨a,b,c⟩:=f (u/10) yO;obtain⟨h1,J⟩:=Fx (i:=u % 10) yO;refine⟨λx e=>?_,?_,yS⟩
   ·rcases bE.1 e with e|e
    ·exact a x e
    ·rw[cU]at e;subst e;exact h1
   ·unfold SI at b ⊢;rw[pQ,b];simp only[fy,DG,J];omega
def sA{a b:Nat}(h:Lib.decDigits a=Lib.decDigits b):a=b:=by rw[<- (iR a).2.1,h,(iR b).2.1]
def isNum(b:UInt8):Prop:=b=45\/nX b
def zo(n:Int):∀b∈Lib.itoa n,isNum b:=by
 unfold Lib.itoa;split
 ·intro b hb;rcases bx.1 hb with rfl|hb
  ·exact .inl rfl
  ·exact .inr ((iR _).1 b hb)
 ·exactλb hb=>.inr ((iR _).1 b hb)
def MH(h:Lib.itoa a=Lib.itoa b):a=b:=by
 have f:∀n l,Lib.decDigits n=45::l->False:=λn l e=>by have:=(iR n).1 45 (by rw[e];simp);obtain⟨h1,_⟩:=this;exact absurd h1 yD
 unfold Lib.itoa at h;split at h<;>split at h
 ·simp at h;have:=sA h;omega
 ·exact(f _ _ h.symm).elim
 ·exact(f _ _ h).elim
 ·have:=sA h;omega
def D1{p:UInt8->Prop}(hc:¬p c)(e:¬p d):∀{l k x y:S},(∀a∈l,p a)->(∀a∈k,p a)->l++c::x=k++d::y->l=k/\c=d/\x=y
 |[],[],x,y,_,_,h=>by simp at h;exact⟨rfl,h.1,h.2⟩
 |[],b::k,x,y,_,hk,h=>by simp at h;exact absurd (hk b yS) (h.1▸hc)
 |a::l,[],x,y,hl,_,h=>by simp at h;exact absurd (hl a yS) (h.1▸e)
 |a::l,b::k,x,y,hl,hk,h=>by simp at h;obtain⟨rfl,h⟩:=h;obtain⟨h1,J,h3⟩:=D1 hc e (λa ha=>hl a (by simp[ha])) (λa ha=>hk a (by simp[ha])) h;exact⟨by rw[h1],J,h3⟩
def xm(hc:¬isNum c)(e:¬isNum d){x y:S}(h:Lib.itoa a++c::x=Lib.itoa b++d::y):a=b/\c=d/\x=y:=by obtain⟨h1,J,h3⟩:=D1 hc e (zo a) (zo b) h;exact⟨MH h1,J,h3⟩
end
def tv(n:Int):S:=Lib.itoa n++[32]
mutual
def Ty.wr:Ty->S| .mk k m n ar fl=>tv k++tv m.length++tv n.length++tv ar.length++tv fl.length++m++n++Ty.tq ar++Ty.uV fl
def Fe.wr:Fe->S| .mk s t b=>Lib.itoa s.length++Lib.formatBool b++s++Ty.wr t
def Ty.tq:List Ty->S|[]=>[]|t::l=>Ty.wr t++Ty.tq l
def Ty.uV:List Fe->S|[]=>[]|t::l=>Fe.wr t++Ty.uV l
end
def tu{a b:Int}{x y:S}(h:tv a++x=tv b++y):a=b/\x=y:=by simp only[tv,bL,KQ]at h;have:=xm (by unfold isNum nX;decide) (by unfold isNum nX;decide) h;exact⟨this.1,this.2.2⟩
mutual
def B6:∀(t u:Ty){x y:S},t.wr++x=u.wr++y->t=u/\x=y
 | .mk k m n ar fl,.mk k' m' n' ar' Z6,x,y,h=>by simp only[Ty.wr,bL]at h;obtain⟨h0,g0⟩:=tu h;obtain⟨h1,g1⟩:=tu g0;obtain⟨J,g2⟩:=tu g1;obtain⟨h3,g3⟩:=tu g2;obtain⟨h4,g4⟩:=tu g3;obtain⟨h5,g5⟩:=sd g4 yO;obtain⟨h6,g6⟩:=sd g5 yO;obtain⟨h7,g7⟩:=H0 ar ar' yO g6;obtain⟨h8,g8⟩:=H3 fl Z6 yO g7;subst h0 h5 h6 h7 h8;exact⟨rfl,g8⟩
def PS:∀(t u:Fe){x y:S},t.wr++x=u.wr++y->t=u/\x=y
 | .mk s t b,.mk s' t' b',x,y,h=>by
  simp only[Fe.wr,bL]at h
  have key:s.length=s'.length/\b=b'/\s++(t.wr++x)=s'++(t'.wr++y):=by
   cases b<;>cases b'<;>simp only[Lib.formatBool]at h<;>
    (obtain⟨e1,e2,e3⟩:=xm (by unfold isNum nX;decide) (by unfold isNum nX;decide) h)<;>
    first|(exact absurd e2 yD)|(refine⟨yO,rfl,?_⟩;simpa using e3)
  obtain⟨h1,J,h3⟩:=key;obtain⟨h4,h5⟩:=sd h3 h1;obtain⟨h6,h7⟩:=B6 t t' h5;subst J h4 h6;exact⟨rfl,h7⟩
def H0:∀(l k:List Ty){x y:S},l.length=k.length->Ty.tq l++x=Ty.tq k++y->l=k/\x=y
 |[],[],x,y,_,h=>⟨rfl,h⟩
 |t::l,u::k,x,y,hl,h=>by simp only[Ty.tq,bL]at h;obtain⟨h1,J⟩:=B6 t u h;obtain⟨h3,h4⟩:=H0 l k (yU hl) J;subst h1 h3;exact⟨rfl,h4⟩
def H3:∀(l k:List Fe){x y:S},l.length=k.length->Ty.uV l++x=Ty.uV k++y->l=k/\x=y
 |[],[],x,y,_,h=>⟨rfl,h⟩
 |t::l,u::k,x,y,hl,h=>by simp only[Ty.uV,bL]at h;obtain⟨h1,J⟩:=PS t u h;obtain⟨h3,h4⟩:=H3 l k (yU hl) J;subst h1 h3;exact⟨rfl,h4⟩
end
def key_inj{s t s' t':Ty}(h:s.wr++t.wr=s'.wr++t'.wr):s=s'/\t=t':=by obtain⟨h1,J⟩:=B6 s s' h;obtain⟨h3,_⟩:=B6 t t' (x:=[]) (y:=[]) (yU J);exact⟨h1,h3⟩
end Go.VC
namespace Go.VC
open Classical
section
variable {α:Type}
abbrev Jm:=Ty×Ty
abbrev Mem:=List Jm×List Jm
def eg(l:List Fe)(s:S):Option Fe:=l.find? λf=>f.s==s
def jG(env:List IF)(ctx:List Pm)(t:Ty):Option Ty:=
 if t.k=10 then(if(cG env t).2.2=0 then some (cG env t).2.1 else none)else
 if t.k=9 then(ctx.find? λp=>p.name==t.n).map Pm.bound else none
def ym(s t:Ty):Option (List Jm):=if s.k=1\/t.k=0\/(s.k=t.k/\(s.k=2\/s.k=3\/s.k=4))\/(s.k=9/\t.k=9/\s.n=t.n)then some []else none
def er(sw:Bool)(a:List Fe):List Fe->Option (List Jm)
 |[]=>some []
 |f::l=>match eg a f.s with
  |none=>none
  |some g=>if(f.b&& !g.b)=true then none else(er sw a l).map ((if sw then(g.t,f.t)else(f.t,g.t)):: ·)
def rN(l:List Ty):Ty:=l.headD Ty.zero
def EC(s t:List Fe):Bool:=s.all λf=>(eg t f.s).isSome||f.b
def j8(s t:Ty):Option (List Jm):=
 if s.k≠t.k then none else
 if s.k=5 then some [(rN s.ar,rN t.ar)]else
 if s.k=6 then er true s.fl t.fl else
 if s.k=7 then er false t.fl s.fl else
 if s.k=8 then(if EC s.fl t.fl then(er false s.fl t.fl).map (· ++[(rN s.ar,rN t.ar)])else none)else none
def nD:List Pm->List Ty->List Ty->List Jm
 |p::ps,a::xs,b::ys=>(if p.var≠1 then [(a,b)]else [])++(if p.var≠0 then [(b,a)]else [])++nD ps xs ys
 |_,_,_=>[]
def kJ(env:List IF)(s t:Ty):Option (List Jm):=
 if s.k≠10\/t.k≠10 then none else
 if(eZ env s.m s.n).2.2≠0\/(eZ env t.m t.n).2.2≠0\/(cp env s.m s.n).2.2≠0\/(eZ env s.m s.n).1≠(eZ env t.m t.n).1\/(eZ env s.m s.n).2.1≠(eZ env t.m t.n).2.1\/s.ar.length≠(cp env s.m s.n).1.params.length\/t.ar.length≠(cp env s.m s.n).1.params.length then none else
 some (nD (cp env s.m s.n).1.params s.ar t.ar)
def tS(env:List IF)(ctx:List Pm)(s t:Ty):Option (List Jm):=(jG env ctx s).map λu=>[(u,t)]
def yl(env:List IF)(s t:Ty):Option (List Jm):=if(cG env t).2.2=0 then some [(s,(cG env t).1)]else none
def lK(env:List IF)(ctx:List Pm)(s t:Ty)(r:Nat):Option (List Jm):=if r=1 then ym s t else if r=2 then j8 s t else if r=3 then kJ env s t else if r=4 then tS env ctx s t else yl env s t
def lI(dec:Jm->Mem->Option (Bool×Mem)):List Jm->Mem->Option (Bool×Mem)
 |[],m=>some (true,m)
 |j::l,m=>match dec j m with
  |none=>none
  |some (true,m')=>lI dec l m'
  |some (false,m')=>some (false,m')
def gD(dec:Jm->Mem->Option (Bool×Mem))(pr:Nat->Option (List Jm))(j:Jm)(a:List Jm):List Nat->List Jm->Option (Bool×Mem)
 |[],bad=>some (false,(a,bad++[j]))
 |r::rs,bad=>match pr r with
  |none=>gD dec pr j a rs bad
  |some l=>match lI dec l (a++[j],bad)with
   |none=>none
   |some (true,m)=>some (true,m)
   |some (false,m)=>gD dec pr j a rs m.2
noncomputable def pH(pr:Ty->Ty->Nat->Option (List Jm)):Nat->Jm->Mem->Option (Bool×Mem)
 |0,_,_=>none
 |n+1,j,m=>if j∈m.2 then some (false,m)else if j∈m.1 then some (true,m)else gD (pH pr n) (pr j.1 j.2) j m.1 [1,2,3,4,5] m.2
def wm(C:List Ty):List Jm:=C.flatMap λs=>C.map λt=>(s,t)
def oN{C:List Ty}{j:Jm}:j∈wm C↔j.1∈C/\j.2∈C:=by
 unfold wm;rw[cb];constructor
 ·rintro⟨s,hs,h⟩;obtain⟨t,a,rfl⟩:=bH.1 h;exact⟨hs,a⟩
 ·rintro⟨h1,J⟩;exact⟨j.1,h1,bH.2 ⟨j.2,J,rfl⟩⟩
def oO(C:List Ty):(wm C).length=C.length*C.length:=by
 unfold wm;rw[uQ]
 have:∀l:List Ty,(l.map λs=>(C.map λt=>(s,t)).length).sum=l.length*C.length:=by
  intro l;induction l with
  |nil=>simp
  |cons a l b=>rw[bF,bV,b,bA,bI,Nat.succ_mul,Af]
 exact this C
noncomputable def jL(C:List Ty)(a:List Jm):Nat:=((wm C).filter λj=>decide (j∉a)).length
def filter_lt{p q:α->Bool}{l:List α}(c:∀x∈l,q x=true->p x=true){a:α}(ha:a∈l)(d:p a=true)(e:q a=false):(l.filter q).length<(l.filter p).length:=by
 induction l with
 |nil=>simp at ha
 |cons x l f=>
  have g:(l.filter q).length<=(l.filter p).length:=by rw[<- jf,<-jf];exact KU λy b=>c y (by simp[b])
  rw[List.filter_cons,List.filter_cons];rcases bx.1 ha with rfl|ha
  ·rw[d,e];simp;omega
  ·have:=f (λy b=>c y (by simp[b])) ha;cases h1:q x with
   |true=>rw[c x yS h1];simp;omega
   |false=>cases p x<;>simp<;>omega
def filter_le{p q:α->Bool}{l:List α}(a:∀x∈l,q x=true->p x=true):(l.filter q).length<=(l.filter p).length:=by rw[<- jf,<-jf];exact KU λy b=>a y b
def zj{C:List Ty}{g a:List Jm}(h:∀j∈g,j∈a):jL C a<=jL C g:=by unfold jL;refine filter_le λj _ b=>?_;simp only[decide_eq_true_eq]at b ⊢;exactλc=>b (h j c)
def zi{C:List Ty}{g:List Jm}{j:Jm}(h1:j.1∈C)(J:j.2∈C)(b:j∉g):jL C (g++[j])<jL C g:=by unfold jL;refine filter_lt (λx _ a=>?_) (oN.2 ⟨h1,J⟩) (yU b) yS;simp only[decide_eq_true_eq]at a ⊢;exactλc=>a (by simp[c])
structure gG (C:List Ty) (m:Mem):Prop where
 g:m.1.Nodup
 b:m.2.Nodup
 d:∀j∈m.1,j∉m.2
 gC:∀j∈m.1,j.1∈C/\j.2∈C
 bC:∀j∈m.2,j.1∈C/\j.2∈C
def rG{l k:List α}(h:l.Nodup)(hs:∀x∈l,x∈k):l.length<=k.length:=by
 induction l generalizing k with
 |nil=>simp
 |cons a l d=>
  rw[cq]at h;have ha:=hs a yS;have:=d (k:=k.erase a) h.2 λx c=>by have b:x≠a:=λe=>h.1 (e▸c);exact(K2 b).2 (hs x (by simp[c]))
  rw[Gd ha]at this;have f:0<k.length:=Jr ha;simp;omega
def gG.Yk{C:List Ty}{m:Mem}(h:gG C m):m.1.length<=C.length*C.length:=by rw[<- oO];exact rG h.g λj a=>oN.2 (h.gC j a)
def gG.Yl{C:List Ty}{m:Mem}(h:gG C m):m.2.length<=C.length*C.length:=by rw[<- oO];exact rG h.b λj a=>oN.2 (h.bC j a)
def gG.nil{C:List Ty}:gG C ([],[]):=⟨yS,yS,yS,yS,yS⟩
def gG.push{C:List Ty}{g b:List Jm}{j:Jm}(h:gG C (g,b))(h1:j.1∈C)(J:j.2∈C)(f:j∉g)(hb:j∉b):gG C (g++[j],b):=by
 refine⟨?_,h.b,?_,?_,h.bC⟩
 ·simp only;rw[dk];exact⟨h.g,yS,λa ha c hc=>by simp at hc;subst hc;exactλe=>f (e▸ha)⟩
 ·intro x d;rcases bE.1 d with d|d
  ·exact h.d x d
  ·simp at d;subst d;exact hb
 ·intro x d;rcases bE.1 d with d|d
  ·exact h.gC x d
  ·simp at d;subst d;exact⟨h1,J⟩
def gG.fail{C:List Ty}{g b:List Jm}{j:Jm}(h:gG C (g,b))(h1:j.1∈C)(J:j.2∈C)(i:j∉g)(hb:j∉b):gG C (g,b++[j]):=by
 refine⟨h.g,?_,?_,h.gC,?_⟩
 ·simp only;rw[dk];exact⟨h.b,yS,λa ha c hc=>by simp at hc;subst hc;exactλe=>hb (e▸ha)⟩
 ·intro x f d;rcases bE.1 d with d|d
  ·exact h.d x f d
  ·simp at d;subst d;exact i f
 ·intro x f;rcases bE.1 f with f|f
  ·exact h.bC x f
  ·simp at f;subst f;exact⟨h1,J⟩
def gG.back{C:List Ty}{g x b:List Jm}(h:gG C (g++x,b)):gG C (g,b):=⟨(dk.1 h.g).1,h.b,λj a=>h.d j (by simp[a]),λj a=>h.gC j (by simp[a]),h.bC⟩
structure Rw (C:List Ty) (g:List Jm) (b:List Jm) (r:Bool×Mem):Prop where
 ext:∃x,r.2.1=g++x/\(r.1=false->x=[])
 bad:∃x,r.2.2=b++x
 inv:gG C r.2
def HT(C:List Ty)(pr:Ty->Ty->Nat->Option (List Jm)):Prop:=∀s∈C,∀t∈C,∀r l,pr s t r=some l->∀j∈l,j.1∈C/\j.2∈C
def Ir{C:List Ty}{dec:Jm->Mem->Option (Bool×Mem)}{B:Nat}(h:∀j g b,j.1∈C->j.2∈C->gG C (g,b)->jL C g<B->∃r,dec j (g,b)=some r/\Rw C g b r):
 ∀(l:List Jm)(g b:List Jm),(∀j∈l,j.1∈C/\j.2∈C)->gG C (g,b)->jL C g<B->∃r,lI dec l (g,b)=some r/\(∃x,r.2.1=g++x)/\(∃x,r.2.2=b++x)/\gG C r.2
 |[],g,b,_,f,_=>⟨_,rfl,⟨[],yS⟩,⟨[],yS⟩,f⟩
 |j::l,g,b,hl,f,hB=>by
  obtain⟨r,hr,c⟩:=h j g b (hl j yS).1 (hl j yS).2 f hB;obtain⟨x,a,d⟩:=c.ext;obtain⟨y,e⟩:=c.bad;obtain⟨r0,n,b'⟩:=r;simp only at a e d;rw[lI,hr];cases r0 with
  |false=>exact⟨_,rfl,⟨x,a⟩,⟨y,e⟩,c.inv⟩
  |true=>obtain⟨r,h1,⟨m,J⟩,⟨i,h3⟩,h4⟩:=Ir h l n b' (λk hk=>hl k (by simp[hk])) c.inv (gS (zj λk hk=>by rw[a];simp[hk]) hB);exact⟨r,h1,⟨x++m,by rw[J,a,bL]⟩,⟨y++i,by rw[h3,e,bL]⟩,h4⟩
def vp{C:List Ty}{dec:Jm->Mem->Option (Bool×Mem)}{pr:Nat->Option (List Jm)}{j:Jm}{g:List Jm}(h1:j.1∈C)(J:j.2∈C)(a:j∉g)(h:∀r l,pr r=some l->∀k∈l,k.1∈C/\k.2∈C)
 (f:∀k c b',k.1∈C->k.2∈C->gG C (c,b')->jL C c<jL C g->∃r,dec k (c,b')=some r/\Rw C c b' r):
 ∀(rs:List Nat)(b:List Jm),gG C (g,b)->j∉b->∃r,gD dec pr j g rs b=some r/\Rw C g b r
 |[],b,d,hb=>⟨_,rfl,⟨[],yS⟩,⟨[j],rfl⟩,d.fail h1 J a hb⟩
 |r::rs,b,d,hb=>by
  rw[gD];cases hr:pr r with
  |none=>exact vp h1 J a h f rs b d hb
  |some l=>
   obtain⟨q,p,⟨x,e⟩,⟨y,n⟩,i⟩:=Ir f l (g++[j]) b (h r l hr) (d.push h1 J a hb) (zi h1 J a);obtain⟨s,c,b'⟩:=q;simp only at e n;simp only[p];cases s with
   |true=>exact⟨_,rfl,⟨[j]++x,by simp[e]⟩,⟨y,n⟩,i⟩
   |false=>
    have m:gG C (g,b'):=by
     have:gG C (g++([j]++x),b'):=by rw[<- bL,<-e];exact i
     exact this.back
    have o:j∉b':=i.d j (by simp only[e];simp);obtain⟨r',a1,a2⟩:=vp h1 J a h f rs b' m o;refine⟨r',a1,a2.ext,?_,a2.inv⟩;obtain⟨z,hz⟩:=a2.bad;exact⟨y++z,by rw[hz,n,bL]⟩
def Jc{C:List Ty}{pr:Ty->Ty->Nat->Option (List Jm)}(hC:HT C pr):
 ∀(n:Nat)(j:Jm)(g b:List Jm),j.1∈C->j.2∈C->gG C (g,b)->jL C g<n->∃r,pH pr n j (g,b)=some r/\Rw C g b r
 |0,j,g,b,_,_,_,h=>yO
 |n+1,j,g,b,h1,J,c,e=>by
  rw[pH];by_cases hb:j∈b
  ·exact⟨_,if_pos hb,⟨[],yS⟩,⟨[],yS⟩,c⟩
  by_cases a:j∈g
  ·exact⟨_,by rw[if_neg hb,if_pos a],⟨[],yS⟩,⟨[],yS⟩,c⟩
  rw[if_neg hb,if_neg a];exact vp h1 J a (λr l hr=>hC _ h1 _ J r l hr) (λk d b' a1 a2 a3 a4=>Jc hC n k d b' a1 a2 a3 yO) [1,2,3,4,5] b c hb
end
end Go.VC
namespace Go.VC
def ji(env:List IF)(vs:List S)(t:Ty):Int:=
 if t.k=9 then(if vs.contains t.n then 0 else 4)else
 if t.k=10 then(if(cp env t.m t.n).2.2≠0 then(cp env t.m t.n).2.2 else if(cp env t.m t.n).1.params.length≠t.ar.length then 11 else 0)else 0
def lL(env:List IF)(vs:List S)(t:Ty):Int:=gp (t.all.map (ji env vs))
def sF(env:List IF)(vs:List S)(t:Ty):Int:=if K0 t≠0 then K0 t else lL env vs t
def uA(vs:List S)(s:S):vs.contains s=vs.any λx=>s==x:=by rw[List.contains_eq_any_beq]
def Fg(l:List S)(s:S):(l.any λx=>s==x)=decide (0<=gI l s):=by
 have:(λx:S=>s==x)=λx=>x==s:=by funext x;exact BEq.comm
 rw[this];exact qQ
def jr{t u v:Ty}(b:v∈t.eA)(hu:u∈v.all):u∈t.all:=by rw[all_eq];exact jI _ (cb.2 ⟨v,b,hu⟩)
def fK(t:Ty):t∈t.all:=by rw[all_eq];simp
def J8(env:List IF)(vs:List S)(t:Ty):lL env vs t=if ji env vs t=0 then gp ((t.eA.flatMap Ty.all).map (ji env vs))else ji env vs t:=by unfold lL;rw[all_eq,bF,iE]
end Go.VC
namespace Go.VC.cc
open Go Go.VC Go.Proofs
section
variable {K:PV->List Ob->Prop}{env:List IF}{de g c f:D}{vs:List S}{t:Ty}{a:Int}{c1 c2:S}
def Rr{l:List S}{d:D}{s:S}(e:d=bt cT l)(hl:l.length<=4294967295)
 (h:∀b,b=l.contains s->K (.bool b) []):FT 74 [] [.lst 9 d,.str s] K:=by
 refine en (cf 9) Tryz.func74 λA C L X=>?_;cbv;refine X.call (Xr e (Nat.lt_succ_of_le hl) rfl λr hr=>?_);have q:=h (A.le 0 r) (by rw[X.a,vW,hr];exact((uA l s).trans (Fg l s)).symm);cbv;exact q
def abj(he:de=bt dy env)(dJ:ey env)(p:g=bt cT vs)(k:vs.length<=4294967295)(s:cr t a c1 c2 c f)
 (h:∀r:Int,r=ji env vs t->K (.int .i64 r) []):FT 221 [] [.lst 97 de,.lst 9 g,dQ a c1 c2 c f] K:=by
 obtain⟨u,n,m,j,o⟩:=s;refine en (cf 41) Tryz.func221 λA C L X=>?_;have l3:A.len c=bj t.ar.length:=gE X.a j;have Y:=fg X.a;have Z:=oY X.a;have i:∀d':D,d'=bt dB (cp env c1 c2).1.params->A.len d'=bj (cp env c1 c2).1.params.length:=λd' h=>gE X.a h;unfold ji at h;rw[<- u,<-n,<-m]at h;cbv;repeat' (first|apply bk|exact zf|(intro J;cbv)|apply bB|(refine X.call (Rr p k λb hb=>?_);cbv)|(refine X.call (Rp he dJ λe0 e1 e2 e3 e4 e5 e6 e7 e8 e9 kj sy v r2 l q d=>?_);cbv))
 ·have J:A.not b=true:=J;have e9:A.eq a 9=true:=yA;rw[Z]at e9;rw[Y,hb]at J;refine h _ ?_;rw[if_pos (yU e9),if_neg (by intro e;rw[e]at J;cases J)]
 ·have J:A.not b=false:=J;have e9:A.eq a 9=true:=yA;rw[Z]at e9;rw[Y,hb]at J;refine h _ ?_;rw[if_pos (yU e9),if_pos (yU J)]
 ·have J:A.not (A.eq r2 0)=true:=J;have e9:A.eq a 9=false:=yA;have kj:A.eq a 10=true:=yA;rw[Z]at e9 kj;rw[Y,Z,d]at J;refine h _ ?_;rw[if_neg (yU e9),if_pos (yU kj),if_pos (yU J),d]
 ·have J:A.not (A.eq (A.len e1) (A.len c))=true:=J;have h3:A.not (A.eq r2 0)=false:=yA;have e9:A.eq a 9=false:=yA;have kj:A.eq a 10=true:=yA;rw[Z]at e9 kj;rw[Y,Z,d]at h3;rw[Y,Z,i _ l.2.1,l3]at J;refine h _ ?_;rw[if_neg (yU e9),if_pos (yU kj),if_neg (yU h3),if_pos (by intro e;rw[e]at J;simp at J)]
 ·have J:A.not (A.eq (A.len e1) (A.len c))=false:=J;have h3:A.not (A.eq r2 0)=false:=yA;have e9:A.eq a 9=false:=yA;have kj:A.eq a 10=true:=yA;rw[Z]at e9 kj;rw[Y,Z,d]at h3;rw[Y,Z,i _ l.2.1,l3]at J;refine h _ ?_;rw[if_neg (yU e9),if_pos (yU kj),if_neg (yU h3),if_neg (by have J:(bj (cp env c1 c2).1.params.length==bj t.ar.length)=true:=yU J;have:=eq_of_beq J;simp only[bD]at this;omega)]
 ·have e9:A.eq a 9=false:=yA;have kj:A.eq a 10=false:=yA;rw[Z]at e9 kj;refine h _ ?_;rw[if_neg (yU e9),if_neg (yU kj)]
def abu(he:de=bt dy env)(dJ:ey env)(w:g=bt cT vs)(p:vs.length<=4294967295):
 ∀(t:Ty),Ty.le 4294967295 t->t.size<=4294967295->∀{a:Int}{c1 c2:S}{c f:D}{K:PV->List Ob->Prop},cr t a c1 c2 c f->(∀r:Int,r=lL env vs t->K (.int .i64 r) [])->FT 189 [] [.lst 97 de,.lst 9 g,dQ a c1 c2 c f] K:=by
 refine Ty.fV λt x=>?_;intro m hs a c1 c2 c f K u h;obtain⟨l,o⟩:=oJ hs;refine en (cf 33) Tryz.func189 λA C L X=>?_;have Y:=fg X.a;have Z:=oY X.a;cbv;refine X.call (abj he dJ w p u λe0 n=>?_);rw[J8,<-n]at h;refine p2 (λJ=>?_) (λJ=>?_)
 ·have J:A.not (A.eq e0 0)=true:=J;rw[Y,Z]at J;refine h _ ?_;rw[if_neg (yU J)]
 have J:A.not (A.eq e0 0)=false:=J;rw[Y,Z]at J;rw[if_pos (yU J)]at h;refine X.call (N7 (.inr rfl) m o u λz e=>?_);obtain⟨d,k,b⟩:=lenOf e;cbv;refine lu X (λi=>i<=d/\gp (((t.eA.take i).flatMap Ty.all).map (ji env vs))=0) (λi=>d-i) 0 ⟨bw _,rfl⟩ (λ(i:Nat)=>[(21,.int .i64 i)]) ?_;rintro i ⟨B,ha⟩;cbv;constructor<;>intro h1
 ·have h5:i<t.eA.length:=lY X.a b h1;have v:=iS X.a e h5;have y:=iX X.a e h5;have q:=jX X.a h5;have e2:t.eA.flatMap Ty.all=(t.eA.take (i+1)).flatMap Ty.all++(t.eA.drop (i+1)).flatMap Ty.all:=by rw[<- ea,cV]
  have j:gp (((t.eA.take (i+1)).flatMap Ty.all).map (ji env vs))=lL env vs t.eA[i]:=by rw[fu h5,bS,s5,ha,if_pos rfl];rfl
  refine p1 ?_;refine X.call (x _ (br h5) (iW m _ (br h5)) (l _ (br h5)) v λe1 s=>?_);rw[<- s]at j;cbv;repeat' (first|apply bk|exact zf|(intro J;cbv)|apply bB)
  any_goals exact q
  ·have J:A.not (A.eq e1 0)=true:=yA;rw[Y,Z]at J;refine h _ ?_;rw[e2,bS,s5,j,if_neg (yU J)]
  ·have J:A.not (A.eq e1 0)=false:=yA;rw[Y,Z]at J;refine⟨i+1,⟨yO,?_⟩,yO,?_⟩
   ·rw[j];simpa using J
   exact yc
 ·have h5:i=d:=gY X.a b h1;cbv;refine h 0 ?_;rw[h5,k,bz]at ha;exact ha.symm
def N8(he:de=bt dy env)(dJ:ey env)(k:g=bt cT vs)(e:vs.length<=4294967295)
 (b:Ty.le 4294967295 t) (hs:t.size<=4294967295) (l:∀u∈t.all,u.me) (j:cr t a c1 c2 c f) (h:∀r:Int,r=sF env vs t->K (.int .i64 r) []):
 FT 138 [] [.lst 97 de,.lst 9 g,dQ a c1 c2 c f] K:=by
 refine en (cf 17) Tryz.func138 λA C L X=>?_;have Y:=fg X.a;have Z:=oY X.a;cbv;refine X.call (abv b hs l j λe0 d=>?_);rw[sF,<-d]at h;refine p2 (λJ=>?_) (λJ=>?_)
 ·have J:A.not (A.eq e0 0)=true:=J;rw[Y,Z]at J;exact h _ (by rw[if_pos (yU J)])
 have J:A.not (A.eq e0 0)=false:=J;rw[Y,Z]at J;rw[if_neg (yU J)]at h;refine X.call (abu he dJ k e t b hs j λe1 i=>?_);cbv;exact h _ i
end
end Go.VC.cc
namespace Go.VC
open Go
section
variable {tt:TypeId->Option TI}
def qv:Ob->Ob
 | .box cs=>.box (cQ (thin 1) cs)
 |o=>o
def pj(o:Ob):(qv o).live=o.live:=by cases o<;>rfl
def Lm(n:Nat):HV (thin n):=by intro p;cases n<;>cases p<;>simp only[thin]<;>(try exact id)<;>(try exactλh=>by first|exact h|(cases h;done))
theorem OR.qv{E:List RI}{Pp:fQ}{w:World}{ri:RI}{o:Ob}(h:OR tt E Pp w ri o):OR tt E Pp w ri (qv o):=by
 cases o<;>try exact h
 rename_i cs;cases ri<;>simp only[OR,VC.qv]at h ⊢
 ·obtain⟨vs,T,h1,J,h3⟩:=h;exact⟨vs,T,h1,eM.cQ (λ_ _=>VR.thin 1) J,h3.1,h3.2.map (Lm 1)⟩
 ·obtain⟨es,h1,J,h3⟩:=h;exact⟨es,h1,eM.cQ (λ_ _=>VR.thin 1) J,h3⟩
def FC.OI{P:Program}{f:FuncId}{objs objs':List Ob}{args:List PV}{K:PV->List Ob->Prop}(s:cQ VC.qv objs=objs')(h:FC P tt f objs' args K):FC P tt f objs args K:=by
 subst s
 have a:∀(i:Nat) o,(cQ VC.qv objs)[i]? =some o->∃c,objs[i]? =some c/\o=VC.qv c:=by
  intro i o d;rw[gP,cC]at d;cases r:objs[i]? with
  |none=>rw[r]at d;cases d
  |some c=>rw[r]at d;cases d;exact⟨c,rfl,rfl⟩
 intro E Pp w vals g t
 have p:WR tt E Pp (cQ VC.qv objs) w:=by
  refine⟨by rw[gP,bA];exact g.len,g.pi,?_,?_,g.gl⟩
  ·intro i o d hl;obtain⟨c,h0,rfl⟩:=a i o d;rw[pj]at hl;obtain⟨ri,h1,J⟩:=g.ob i c h0 hl;exact⟨ri,h1,J.qv⟩
  ·intro i j oi oj ri rj b d u n m;obtain⟨c,h0,rfl⟩:=a i oi d;obtain⟨y,h1,rfl⟩:=a j oj u;rw[pj]at n m;exact g.sep i j c y ri rj b h0 h1 n m
 have k:own E (cQ VC.qv objs)=own E objs:=by
  funext b;apply propext;constructor
  ·rintro⟨i,o,ri,h1,J,h3,h4⟩;obtain⟨c,h0,rfl⟩:=a i o h1;exact⟨i,c,ri,h0,by rw[pj]at J;exact J,h3,h4⟩
  ·rintro⟨i,o,ri,h1,J,h3,h4⟩;refine⟨i,VC.qv o,ri,?_,by rw[pj];exact J,h3,h4⟩;rw[gP,cC,h1];rfl
 have:=h E Pp w vals p t;refine this.mono ?_;rintro e w' ⟨v,E',Pp',o',pv,h1,J,h3,h4,h5,h6,h7,h8,q⟩;rw[k]at h7 h8 q;exact⟨v,E',Pp',o',pv,h1,J,h3,h4,h5,h6,h7,h8,q⟩
abbrev BB:=Bool×Bool
def wX(a b:BB):BB:=(a.1||b.1,a.2||b.2)
def OB(v:Int)(o:BB):BB:=if v=0 then o else if v=1 then(o.2,o.1)else(o.1||o.2,o.1||o.2)
def varOf(ps:List Pm)(i:Nat):Int:=match ps[i]? with|some p=>p.var|none=>2
mutual
def qa(env:List IF)(x:S):Ty->BB
 | .mk k m n ar fl=>if k=9 then(n==x,false)else if k=10 then mZ env x (cp env m n).1.params 0 ar else wX (mY env x ar) (og env x (k==8) fl)
def mZ(env:List IF)(x:S)(ps:List Pm):Nat->List Ty->BB
 |_,[]=>(false,false)
 |i,t::l=>wX (OB (varOf ps i) (qa env x t)) (mZ env x ps (i+1) l)
def mY(env:List IF)(x:S):List Ty->BB
 |[]=>(false,false)
 |t::l=>wX (qa env x t) (mY env x l)
def og(env:List IF)(x:S)(sw:Bool):List Fe->BB
 |[]=>(false,false)
 | .mk _ t _::l=>wX (if sw then((qa env x t).2,(qa env x t).1)else qa env x t) (og env x sw l)
end
variable {env:List IF}{x:S}{i:Nat}{l:List Ty}
def Rh(s:Int)(o:BB):Bool:=if 0<s then o.1 else if s<0 then o.2 else o.1||o.2
def tg(s:Int)(o q:BB):BB:=(q.1||Rh s o,q.2||Rh (-s) o)
def oP(a b c:BB):wX (wX a b) c=wX a (wX b c):=by simp[wX,vY]
def CL(a:BB):wX a (false,false)=a:=by simp[wX]
def Hp(a:BB):wX (false,false) a=a:=by simp[wX]
def sH(s:Int)(a b q:BB):tg s (wX a b) q=tg s b (tg s a q):=by
 unfold tg Rh wX;rcases p6 s 0 with h|h|h
 ·have h1:¬0<s:=yO;have J:0< -s:=yO;simp[h,h1,J,vY]
 ·subst h;simp;constructor<;>(cases q.1<;>cases q.2<;>cases a.1<;>cases a.2<;>cases b.1<;>cases b.2<;>rfl)
 ·have h1:¬s<0:=yO;have J:¬0< -s:=yO;have h3: -s<0:=yO;simp[h,h1,J,h3,vY]
def Lf(s:Int)(q:BB):tg s (false,false) q=q:=by unfold tg Rh;simp
def H9(s:Int)(o q:BB):tg s (o.2,o.1) q=tg (-s) o q:=by
 unfold tg Rh;rcases p6 s 0 with h|h|h
 ·have h1:¬0<s:=yO;have J:0< -s:=yO;simp[h,h1,J]
 ·subst h;simp[Bool.or_comm]
 ·have h1:¬s<0:=yO;have J:¬0< -s:=yO;have h3: -s<0:=yO;simp[h,h1,J,h3]
def Lg(s:Int)(o q:BB):tg s (o.1||o.2,o.1||o.2) q=tg 0 o q:=by
 unfold tg Rh;rcases p6 s 0 with h|h|h
 ·have h1:¬0<s:=yO;have J:0< -s:=yO;simp[h,h1,J]
 ·subst h;simp
 ·have h1:¬s<0:=yO;have J:¬0< -s:=yO;have h3: -s<0:=yO;simp[h,h1,J,h3]
def tC(s v:Int)(o q:BB):tg s (OB v o) q=if v=0 then tg s o q else if v=1 then tg (-s) o q else tg 0 o q:=by
 unfold OB;split
 ·rfl
 ·split
  ·exact H9 _ _ _
  ·exact Lg _ _ _
def EA(env:List IF)(x:S)(ps:List Pm):∀(l k:List Ty)(i:Nat),mZ env x ps i (l++k)=wX (mZ env x ps i l) (mZ env x ps (i+l.length) k)
 |[],k,i=>by simp[mZ,Hp]
 |t::l,k,i=>by rw[dL,mZ,mZ,EA env x ps l k (i+1),oP];simp[Af,Nat.add_left_comm]
def Ey(env:List IF)(x:S):∀(l k:List Ty),mY env x (l++k)=wX (mY env x l) (mY env x k)
 |[],k=>by simp[mY,Hp]
 |t::l,k=>by rw[dL,mY,mY,Ey env x l k,oP]
def Ez(env:List IF)(x:S)(sw:Bool):∀(l k:List Fe),og env x sw (l++k)=wX (og env x sw l) (og env x sw k)
 |[],k=>by simp[og,Hp]
 | .mk s t b::l,k=>by rw[dL,og,og,Ez env x sw l k,oP]
def J5{ps:List Pm}(h:i<l.length):mZ env x ps 0 (l.take (i+1))=wX (mZ env x ps 0 (l.take i)) (OB (varOf ps i) (qa env x l[i])):=by rw[cj h,EA,dY,cF,Dy (KO h),mZ,mZ,CL]
def J3(h:i<l.length):mY env x (l.take (i+1))=wX (mY env x (l.take i)) (qa env x l[i]):=by rw[cj h,Ey,mY,mY,CL]
def J4{sw:Bool}{l:List Fe}(h:i<l.length):og env x sw (l.take (i+1))=wX (og env x sw (l.take i)) (if sw then((qa env x l[i].t).2,(qa env x l[i].t).1)else qa env x l[i].t):=by
 rw[cj h,Ez]
 congr 1
 cases l[i];rw[og,og,CL];rfl
def Sb(env:List IF)(x:S)(t:Ty):qa env x t=if t.k=9 then(t.n==x,false)else if t.k=10 then mZ env x (cp env t.m t.n).1.params 0 t.ar else wX (mY env x t.ar) (og env x (t.k==8) t.fl):=by cases t;rw[qa];rfl
def j7(env:List IF)(t:Ty):List S->List Pm->Bool
 |_,[]=>true
 |seen,p::l=>if seen.contains p.name then j7 env t seen l else
  if(p.var=0/\(qa env p.name t).2=true)\/(p.var=1/\(qa env p.name t).1=true)then false else j7 env t (seen++[p.name]) l
end
end Go.VC
namespace Go.VC.cc
open Go Go.VC Go.Proofs
def UZ:dH:={tt:=tt,n:=128,live:=[330],eh:=[330],n0:=5}
def Kk(b:Bool)(P:PV):Prop:=P= .bool b\/P= .bl b
abbrev Qw(P N:PV)(x:S)(de:D):List Ob:=[.box [P],.box [.str x],.box [N],.box [.lst 97 de],.box [.cu 330 [.box 0 0,.box 1 0,.box 2 0,.box 3 0,.box 4 0]]]
def aaA{env:List IF}{de:D}{x:S}(he:de=bt dy env)(dJ:ey env):
 ∀(t:Ty),Ty.le 4294967295 t->∀{s:Int}(hs: -1<=s/\s<=1){p n:Bool}{P N:PV}(hP:Kk p P)(hN:Kk n N){E:Int}{c1 c2:S}{c3 c4:D}{K:PV->List Ob->Prop},cr t E c1 c2 c3 c4->
  (∀p' n' P' N',Kk p' P'->Kk n' N'->(p',n')=tg s (qa env x t) (p,n)->K (.tup []) (Qw P' N' x de))->
  FT 330 (Qw P N x de) [dQ E c1 c2 c3 c4,.int .i64 s,.box 0 0,.box 1 0,.box 2 0,.box 3 0,.box 4 0] K:=by
 refine Ty.fV λt ih=>?_;intro af s hs p n P N hP hN E c1 c2 c3 c4 K ht h;refine FC.OI (objs':=Qw (.bool p) (.bool n) x de) (by rcases hP with rfl|rfl<;>rcases hN with rfl|rfl<;>rfl) ?_;clear hP hN P N;have aA:=ht;obtain⟨t0,t1,t2,M,ak⟩:=aA;rw[Sb,<-t0,<-t1,<-t2]at h;have aO:t.ar.length<=4294967295:=by cases af;assumption
 have aS:t.fl.length<=4294967295:=by cases af;assumption
 have O:∀i (w:i<t.ar.length),_:=λi w=>ih t.ar[i] (by simp[Ty.eA]);have ao:∀i (w:i<t.fl.length),_:=λi w=>ih t.fl[i].t (by simp only[Ty.eA,bE,bH];exact .inr ⟨_,br w,rfl⟩);have V:∀i (w:i<t.ar.length),Ty.le 4294967295 t.ar[i]:=λi w=>iW af _ (by simp[Ty.eA]);have ar:∀i (w:i<t.fl.length),Ty.le 4294967295 t.fl[i].t:=λi w=>iW af _ (by simp only[Ty.eA,bE,bH];exact .inr ⟨_,br w,rfl⟩);clear ih;refine el UZ Tryz.func330 λA C L X=>?_;have Y:=fg X.a;have Z:=oY X.a;have m:A.inr .i64 (A.sub 0 s):=by rw[X.a,fw,pL];omega
 have hm:A.sub 0 s= -s:=by rw[X.a,pL];omega
 by_cases h9:E=9
 ·have e9:A.eq E 9=true:=by rw[Z,h9];rfl
  rw[if_pos h9]at h
  have hu:∀p' n' P' N',Kk p' P'->Kk n' N'->p'=(p||((c2==x)&&decide (0<=s)))->n'=(n||((c2==x)&&decide (s<=0)))->K (.tup []) (Qw P' N' x de):=by
   intro p' n' P' N' aJ aI hp aD;refine h p' n' P' N' aJ aI ?_;rw[hp,aD];unfold tg Rh;rcases p6 s 0 with h|h|h
   ·have h1:¬0<s:=yO;have J:0< -s:=yO;have h3:¬0<=s:=yO;have h4:s<=0:=yO;simp[h,h1,J,h3,h4]
   ·subst h;simp
   ·have h1:¬s<0:=yO;have J:¬0< -s:=yO;have h3: -s<0:=yO;have h4:¬s<=0:=yO;have h5:0<=s:=yO;simp[h,h1,J,h3,h4,h5]
  have ac:A.seq c2 x=(c2==x):=yX;have G:A.le 0 s=decide (0<=s):=yX;have F:A.le s 0=decide (s<=0):=yX;clear h O ao;cbv;repeat' (first|apply bk|exact zf|(intro J;first|exact yB e9 J|cbv)|apply bB)
  all_goals (first
   |(refine hu _ _ _ _ (.inl rfl) (.inl rfl) ?_ ?_<;>(clear hu;simp only[fP,ac,G,F]at *;simp_all;done))
   |(refine hu _ _ _ _ (.inl rfl) (.inr rfl) ?_ ?_<;>(clear hu;simp only[fP,ac,G,F]at *;simp_all;done))
   |(refine hu _ _ _ _ (.inr rfl) (.inl rfl) ?_ ?_<;>(clear hu;simp only[fP,ac,G,F]at *;simp_all;done))
   |(refine hu _ _ _ _ (.inr rfl) (.inr rfl) ?_ ?_<;>(clear hu;simp only[fP,ac,G,F]at *;simp_all;done)))
 rw[if_neg h9]at h;have e9:A.eq E 9=false:=by rw[Z];simpa using h9
 have au: -1<=A.sub 0 s/\A.sub 0 s<=1:=by rw[hm];omega
 have av:(-1:Int)<=0/\(0:Int)<=1:=yD;by_cases ae:E=10
 ·have kj:A.eq E 10=true:=by rw[Z,ae];rfl
  rw[if_pos ae]at h;cbv;repeat' (first|apply bk|exact zf|(intro J;first|exact yB e9 J|exact yB kj J|cbv)|apply bB|(refine X.call (Rp he dJ λw0 Q w2 w3 w4 w5 w6 w7 w8 w9 aH aF r1 r2 hx aB az=>?_);cbv))
  obtain⟨ps,al⟩:∃ps,ps=(cp env c1 c2).1.params:=⟨_,rfl⟩;have aj:Q=bt dB ps:=by rw[al];exact hx.2.1
  rw[<- al]at h;clear al hx aB az;obtain⟨k,z,j⟩:=lenOf M;have aw:A.len Q=bj ps.length:=gE X.a aj;refine lP X (λy=>y.1<=k/\(y.2.1,y.2.2)=tg s (mZ env x ps 0 (t.ar.take y.1)) (p,n)) (λy=>k-y.1) (0,(p,n)) ⟨bw _,by simp only;rw[DD,mZ,Lf]⟩ [0,1,2,3,4,5,6] (λ(y:Nat×(Bool×Bool))=>⟨[(94,.int .i64 y.1),(93,.int .i64 (A.len c3)),(92,.lst 29 c3),(1,.int .i64 s),(2,.box 0 0),(3,.box 1 0),(4,.box 2 0),(5,.box 3 0),(6,.box 4 0),(9,.box 6 0)],[.box [.bool y.2.1],.box [.str x],.box [.bool y.2.2],.box [.lst 97 de],.box [.cu 330 [.box 0 0,.box 1 0,.box 2 0,.box 3 0,.box 4 0]],.box [.int .i64 E,.str c1,.str c2,.lst 29 c3,.lst 57 c4],.box [.str w0,.lst 73 Q,.int .i64 w2,.str w3,.str w4,.lst 29 w5,.lst 57 w6,.int .i64 w7,.str w8,.str w9,.lst 29 aH,.lst 57 aF]]⟩) ?_;rintro⟨i,p',n'⟩ ⟨w,q⟩;simp only at w q;cbv;constructor<;>intro h1
  ·have h5:i<t.ar.length:=lY X.a j h1;have k1:=iS X.a M h5;have o:=iX X.a M h5;have r:=jX X.a h5;have l:=J5 (env:=env) (x:=x) (ps:=ps) h5;by_cases hV:i<ps.length
   ·have aa:A.lt (bj i) (A.len Q)=true:=by rw[aw,X.a,kU];exact decide_eq_true yL
    have U:=iX X.a aj hV;have kv:=(Es X.a aj hV).2;have am:varOf ps i=ps[i].var:=by rw[varOf,bu hV]
    rw[am,<-kv]at l;obtain⟨v,hv⟩:∃v,v=A.asInt (A.cell Q (bj i) 1):=⟨_,rfl⟩;by_cases R:A.asInt (A.cell Q (bj i) 1)=0
    ·have B:A.eq (A.asInt (A.cell Q (bj i) 1)) 0=true:=by rw[Z,R];rfl
     cbv;repeat' (first|apply bk|exact zf|(intro J;first|exact yB aa J|exact yB B J|cbv)|apply bB|(refine X.call (O i h5 (V i h5) hs (.inl rfl) (.inl rfl) k1 λd c I H e f hu=>?_);cbv))
     any_goals first|exact o|exact r|exact m|exact U
     have g:(d,c)=tg s (mZ env x ps 0 (t.ar.take (i+1))) (p,n):=by rw[l,sH,tC,if_pos R,<-q];exact hu
     rcases e with rfl|rfl<;>rcases f with rfl|rfl<;>(refine⟨(i+1,(d,c)),⟨yP,g⟩,yP,[0,1,2,3,4,5,6],rfl,?_⟩;exact yc)
    by_cases ad:A.asInt (A.cell Q (bj i) 1)=1
    ·have B:A.eq (A.asInt (A.cell Q (bj i) 1)) 0=false:=by rw[Z];simpa using R
     have T:A.eq (A.asInt (A.cell Q (bj i) 1)) 1=true:=by rw[Z,ad];rfl
     cbv;repeat' (first|apply bk|exact zf|(intro J;first|exact yB aa J|exact yB B J|exact yB T J|cbv)|apply bB|(refine X.call (O i h5 (V i h5) au (.inl rfl) (.inl rfl) k1 λd c I H e f hu=>?_);cbv))
     any_goals first|exact o|exact r|exact m|exact U
     have g:(d,c)=tg s (mZ env x ps 0 (t.ar.take (i+1))) (p,n):=by rw[l,sH,tC,if_neg R,if_pos ad,<-q,<-hm];exact hu
     rcases e with rfl|rfl<;>rcases f with rfl|rfl<;>(refine⟨(i+1,(d,c)),⟨yP,g⟩,yP,[0,1,2,3,4,5,6],rfl,?_⟩;exact yc)
    ·have B:A.eq (A.asInt (A.cell Q (bj i) 1)) 0=false:=by rw[Z];simpa using R
     have T:A.eq (A.asInt (A.cell Q (bj i) 1)) 1=false:=by rw[Z];simpa using ad
     cbv;repeat' (first|apply bk|exact zf|(intro J;first|exact yB aa J|exact yB B J|exact yB T J|cbv)|apply bB|(refine X.call (O i h5 (V i h5) av (.inl rfl) (.inl rfl) k1 λd c I H e f hu=>?_);cbv))
     any_goals first|exact o|exact r|exact m|exact U
     have g:(d,c)=tg s (mZ env x ps 0 (t.ar.take (i+1))) (p,n):=by rw[l,sH,tC,if_neg R,if_neg ad,<-q];exact hu
     rcases e with rfl|rfl<;>rcases f with rfl|rfl<;>(refine⟨(i+1,(d,c)),⟨yP,g⟩,yP,[0,1,2,3,4,5,6],rfl,?_⟩;exact yc)
   ·have aa:A.lt (bj i) (A.len Q)=false:=by rw[aw,X.a,kU];exact decide_eq_false yL
    have B:A.eq 2 0=false:=by rw[Z];rfl
    have T:A.eq 2 1=false:=by rw[Z];rfl
    have am:varOf ps i=2:=by rw[varOf,bU yO]
    rw[am]at l;cbv;repeat' (first|apply bk|exact zf|(intro J;first|exact yB aa J|exact yB B J|exact yB T J|cbv)|apply bB|(refine X.call (O i h5 (V i h5) av (.inl rfl) (.inl rfl) k1 λd c I H e f hu=>?_);cbv))
    any_goals first|exact o|exact r|exact m
    have g:(d,c)=tg s (mZ env x ps 0 (t.ar.take (i+1))) (p,n):=by rw[l,sH,tC,if_neg yD,if_neg yD,<-q];exact hu
    rcases e with rfl|rfl<;>rcases f with rfl|rfl<;>(refine⟨(i+1,(d,c)),⟨yP,g⟩,yP,[0,1,2,3,4,5,6],rfl,?_⟩;exact yc)
  ·have h5:i=k:=gY X.a j h1;rw[h5,z,bz]at q;cbv;exact h p' n' _ _ (.inl rfl) (.inl rfl) q
 have kj:A.eq E 10=false:=by rw[Z];simpa using ae
 rw[if_neg ae]at h;cbv;repeat' (first|apply bk|exact zf|(intro J;first|exact yB e9 J|exact yB kj J|cbv)|apply bB)
 obtain⟨k,z,j⟩:=lenOf M;obtain⟨W,ai,u⟩:=lenOf ak;refine lP X (λy=>y.1<=k/\(y.2.1,y.2.2)=tg s (mY env x (t.ar.take y.1)) (p,n)) (λy=>k-y.1) (0,(p,n)) ⟨bw _,by simp only;rw[DD,mY,Lf]⟩ [0,1,2,3,4,5] (λ(y:Nat×(Bool×Bool))=>⟨[(24,.int .i64 y.1),(23,.int .i64 (A.len c3)),(22,.lst 29 c3),(1,.int .i64 s),(2,.box 0 0),(3,.box 1 0),(4,.box 2 0),(5,.box 3 0),(6,.box 4 0),(7,.box 5 0)],[.box [.bool y.2.1],.box [.str x],.box [.bool y.2.2],.box [.lst 97 de],.box [.cu 330 [.box 0 0,.box 1 0,.box 2 0,.box 3 0,.box 4 0]],.box [.int .i64 E,.str c1,.str c2,.lst 29 c3,.lst 57 c4]]⟩) ?_;rintro⟨i,p',n'⟩ ⟨w,q⟩;simp only at w q;cbv;constructor<;>intro h1
 ·have h5:i<t.ar.length:=lY X.a j h1;have k1:=iS X.a M h5;have o:=iX X.a M h5;have r:=jX X.a h5;have l:=J3 (env:=env) (x:=x) h5;cbv;repeat' (first|apply bk|exact zf|(intro J;first|exact yB e9 J|cbv)|apply bB|(refine X.call (O i h5 (V i h5) hs (.inl rfl) (.inl rfl) k1 λd c I H e f hu=>?_);cbv))
  any_goals first|exact o|exact r|exact m
  have g:(d,c)=tg s (mY env x (t.ar.take (i+1))) (p,n):=by rw[l,sH,<-q];exact hu
  rcases e with rfl|rfl<;>rcases f with rfl|rfl<;>(refine⟨(i+1,(d,c)),⟨yP,g⟩,yP,[0,1,2,3,4,5],rfl,?_⟩;exact yc)
 have h5:i=k:=gY X.a j h1;rw[h5,z,bz]at q;obtain⟨p0,n0,aK⟩:∃a b,a=p'/\b=n':=⟨_,_,rfl,rfl⟩;clear h5 h1 w;cbv;refine lP X (λy=>y.1<=W/\(y.2.1,y.2.2)=tg s (wX (mY env x t.ar) (og env x (t.k==8) (t.fl.take y.1))) (p,n)) (λy=>W-y.1) (0,(p',n')) ⟨bw _,by simp only;rw[DD,og,CL];exact q⟩ [0,1,2,3,4,5] (λ(y:Nat×(Bool×Bool))=>⟨[(36,.int .i64 y.1),(35,.int .i64 (A.len c4)),(34,.lst 57 c4),(1,.int .i64 s),(2,.box 0 0),(3,.box 1 0),(4,.box 2 0),(5,.box 3 0),(6,.box 4 0),(7,.box 5 0)],[.box [.bool y.2.1],.box [.str x],.box [.bool y.2.2],.box [.lst 97 de],.box [.cu 330 [.box 0 0,.box 1 0,.box 2 0,.box 3 0,.box 4 0]],.box [.int .i64 E,.str c1,.str c2,.lst 29 c3,.lst 57 c4]]⟩) ?_;clear q aK;rintro⟨i,p',n'⟩ ⟨w,q⟩;simp only at w q;cbv;constructor<;>intro h1
 ·have h5:i<t.fl.length:=lY X.a u h1;have k1:=nq X.a ak h5;have o:=iX X.a ak h5;have r:=jX X.a h5;have l:=J4 (env:=env) (x:=x) (sw:=(t.k==8)) h5;by_cases h8:E=8
  ·have e8:A.eq E 8=true:=by rw[Z,h8];rfl
   have an:(t.k==8)=true:=by rw[<- t0,h8];rfl
   cbv;repeat' (first|apply bk|exact zf|(intro J;first|exact yB e8 J|cbv)|apply bB|(refine X.call (ao i h5 (ar i h5) au (.inl rfl) (.inl rfl) k1 λd c I H e f hu=>?_);cbv))
   any_goals first|exact o|exact r|exact m
   have g:(d,c)=tg s (wX (mY env x t.ar) (og env x (t.k==8) (t.fl.take (i+1)))) (p,n):=by rw[l,<-oP,sH,<-q,if_pos an,H9,<-hm];exact hu
   rcases e with rfl|rfl<;>rcases f with rfl|rfl<;>(refine⟨(i+1,(d,c)),⟨yP,g⟩,yP,[0,1,2,3,4,5],rfl,?_⟩;exact yc)
  ·have e8:A.eq E 8=false:=by rw[Z];simpa using h8
   have an:¬(t.k==8)=true:=by rw[<- t0];simpa using h8
   cbv;repeat' (first|apply bk|exact zf|(intro J;first|exact yB e8 J|cbv)|apply bB|(refine X.call (ao i h5 (ar i h5) hs (.inl rfl) (.inl rfl) k1 λd c I H e f hu=>?_);cbv))
   any_goals first|exact o|exact r|exact m
   have g:(d,c)=tg s (wX (mY env x t.ar) (og env x (t.k==8) (t.fl.take (i+1)))) (p,n):=by rw[l,<-oP,sH,<-q,if_neg an];exact hu
   rcases e with rfl|rfl<;>rcases f with rfl|rfl<;>(refine⟨(i+1,(d,c)),⟨yP,g⟩,yP,[0,1,2,3,4,5],rfl,?_⟩;exact yc)
 have h5:i=W:=gY X.a u h1;rw[h5,ai,bz]at q;rw[t0]at h;cbv;exact h p' n' _ _ (.inl rfl) (.inl rfl) q
end Go.VC.cc
namespace Go.VC
section
variable {m:List (S×Bool)}{L:List S}{α:Type}
def Pm.wt(p:Pm):Nat:=1+p.bound.size
def TE.wt(x:TE):Nat:=1+(x.params.map Pm.wt).sum+x.lower.size+x.upper.size
def VE.wt(x:VE):Nat:=1+(x.params.map Pm.wt).sum+x.ty.size
def IF.wt(x:IF):Nat:=1+(x.types.map TE.wt).sum+(x.values.map VE.wt).sum+x.aliases.length+x.deprecated.length
def ql{f:α->Nat}{l:List α}{x:α}(h:x∈l):f x<=(l.map f).sum:=vH (bH.2 ⟨x,h,rfl⟩)
def qt(t:Ty):List S:=t.iO.map (·.1)
def sS(l:List Pm):List S:=l.flatMap λp=>qt p.bound
def sK(x:TE):List S:=sS x.params++qt x.lower++qt x.upper
def uX(x:VE):List S:=sS x.params++qt x.ty
def Bm(x:IF):List S:=x.types.flatMap sK++x.values.flatMap uX++x.aliases.map (·.module)
def ph(t:Ty):(qt t).length<=t.size:=by unfold qt;rw[bA];exact mP t
def lx{β:Type}{f:α->List β}{g:α->Nat}:∀{l:List α},(∀x∈l,(f x).length<=g x)->(l.flatMap f).length<=(l.map g).sum
 |[],_=>yS
 |x::l,h=>by have a:=h x yS;have b:=lx (l:=l) (f:=f) (g:=g) λy e=>h y (by simp[e]);simp only[eJ,bp,bF,bV];omega
def yn(l:List Pm):(sS l).length<=(l.map Pm.wt).sum:=lx λp _=>by have:=ph p.bound;unfold Pm.wt;omega
def vz(x:IF):(Bm x).length<=x.wt:=by
 have a:=lx (l:=x.types) (f:=sK) (g:=TE.wt) λy _=>by have:=yn y.params;have:=ph y.lower;have:=ph y.upper;simp only[sK,bp,TE.wt];omega
 have b:=lx (l:=x.values) (f:=uX) (g:=VE.wt) λy _=>by have:=yn y.params;have:=ph y.ty;simp only[uX,bp,VE.wt];omega
 simp only[Bm,bp,bA,IF.wt];omega
def jB(m:List (S×Bool))(L:List S):Prop:=(m.map (·.1)).Nodup/\∀s,s∈m.map (·.1)↔s∈L
def jB.nil:jB [] []:=⟨yS,yS⟩
def jB.add(h:jB m L)(l:List S):jB (iv m l) (L++l):=⟨wQ h.1,λs=>by rw[Aa,h.2,bE];exact Or.comm⟩
def jB.of{a:List S}(h:jB m L)(e:∀s,s∈L↔s∈a):jB m a:=⟨h.1,λs=>by rw[h.2,e]⟩
def jB.len(h:jB m L):m.length<=L.length:=by have:=fk h.1 (m:=L) λs hs=>(h.2 s).1 hs;simpa using this
def xb(m:List (S×Bool))(k:S):List (S×Bool):=m.eraseP λx=>k==x.1
def NY{k:S}:Std.G5 (bt cM m) (.str k)=bt cM (xb m k):=by
 simp only[Std,dS,bt,cg,xb]
 congr 1
 rw[List.eraseP_map];rfl
def jB.del(h:jB m L)(k:S):jB (xb m k) (L.filter λs=>s != k):=by
 obtain⟨h1,J⟩:=h
 have key:∀m:List (S×Bool),(m.map (·.1)).Nodup->((xb m k).map (·.1)).Nodup/\∀s,s∈(xb m k).map (·.1)↔s∈m.map (·.1)/\s≠k:=by
  intro m a;refine⟨a.sublist (List.Sublist.map _ uS),?_⟩;induction m with
  |nil=>simp[xb]
  |cons x m j=>
   rw[bF,cq]at a;intro s;by_cases hk:k=x.1
   ·have e:xb (x::m) k=m:=by unfold xb;rw[List.eraseP_cons_of_pos (by simp[hk])]
    rw[e];constructor
    ·intro hs;exact⟨by simp only[bF,bx];exact .inr hs,λe=>a.1 (by rw[<- hk,<-e];exact hs)⟩
    ·rintro⟨hs,f⟩;rcases bx.1 (by simpa only[bF]using hs)with e|e
     ·exact absurd (e.trans hk.symm) f
     ·exact e
   ·have e:xb (x::m) k=x::xb m k:=by unfold xb;rw[List.eraseP_cons_of_neg (yU hk)]
    rw[e,bF,bx,j a.2,bF,bx];constructor
    ·rintro(h|⟨h,b⟩)
     ·exact⟨.inl h,λe=>hk (e.symm.trans h)⟩
     ·exact⟨.inr h,b⟩
    ·rintro⟨h|h,b⟩
     ·exact .inl h
     ·exact .inr ⟨h,b⟩
 obtain⟨g,i⟩:=key m h1;exact⟨g,λs=>by rw[i,J,hZ];simp⟩
end
end Go.VC
namespace Go.VC.cc
open Go Go.VC Go.Proofs
section
variable {d:D}{m:List (S×Bool)}{c:List S}{K:PV->List Ob->Prop}
def uAt{A:pP}{i:Nat}{l:List U}(ha:A=Std)(a:d=bt vQ l)(h:i<l.length):A.bG (A.cell d (bj i) 0)=l[i].1/\A.bG (A.cell d (bj i) 1)=l[i].2:=by simp only[cellAt ha a h];subst ha;exact⟨rfl,rfl⟩
def QA{t:Ty}(o:Ty.le 4294967295 t)(hs:t.size<=4294967295){v:Int}{c1 c2:S}{p q:D}(B:cr t v c1 c2 p q)(w:d=bt cM m)(I:jB m c)
 (h:∀m' r,r=bt cM m'->jB m' (c++qt t)->K (.tup []) [.box [.mp 1],.map .str 4 r]):FT 200 [.box [.mp 1],.map .str 4 d] [dQ v c1 c2 p q,.box 0 0] K:=by
 have E:=mP t;refine el ZB Tryz.func200 λA C L X=>?_;cbv;refine X.call (Xe o hs B λl n f k g=>?_);have z:l.length<=t.iO.length:=fk (Ad k) λu hu=>(g u).1 hu;obtain⟨b,j,a⟩:=lenOf f;cbv;refine lp X (λy=>y.1<=b/\y.2=bt cM (iv m ((l.take y.1).map (·.1)))) (λy=>b-y.1) (0,d) ⟨bw _,by simpa[iv]using w⟩ (λ(y:Nat×D)=>⟨[(8,.int .i64 y.1),(7,.int .i64 (A.len n)),(6,.lst 259 n),(1,.box 0 0)],[.box [.mp 1],.map .str 4 y.2]⟩) ?_;rintro⟨i,r⟩ ⟨H,hr⟩;simp only at H hr;cbv;constructor<;>intro h1
 ·have h5:i<l.length:=lY X.a a h1;have x:=(uAt X.a f h5).1;have M:=iX X.a f h5;have G:=jX X.a h5;have F:A.lM r (.str (A.bG (A.cell n (bj i) 0))) [.bool true]=bt cM (iv m ((l.take (i+1)).map (·.1))):=by rw[x,X.a,hr,pa,map_take h5,pK]
  refine p1 ?_;exact⟨(i+1,_),⟨yP,F⟩,yP,yc⟩
 have h5:i=b:=gY X.a a h1;subst h5;rw[j,bz]at hr;cbv;refine h _ r hr ((I.add (l.map (·.1))).of λs=>?_);simp only[bE,qt,bH];constructor
 ·rintro(h|⟨u,hu,e⟩)
  ·exact .inl h
  ·exact .inr ⟨u,(g u).1 hu,e⟩
 ·rintro(h|⟨u,hu,e⟩)
  ·exact .inl h
  ·exact .inr ⟨u,(g u).2 hu,e⟩
def Xd{l:List Pm}(hl:l.length<=4294967295)(dJ:∀p∈l,p.ok)(fW:∀p∈l,p.bound.size<=4294967295){k:D}(g:k=bt dB l)(o:d=bt cM m)(s:jB m c)
 (h:∀m' r,r=bt cM m'->jB m' (c++sS l)->K (.tup []) [.box [.cu 200 [.box 1 0]],.box [.mp 2],.map .str 4 r]):FT 202 [.box [.cu 200 [.box 1 0]],.box [.mp 2],.map .str 4 d] [.lst 73 k,.box 0 0] K:=by
 refine el Zz Tryz.func202 λA C L X=>?_;obtain⟨b,f,a⟩:=lenOf g;cbv;refine lp X (λy=>y.1<=b/\y.2.1=bt cM y.2.2/\jB y.2.2 (c++sS (l.take y.1))) (λy=>b-y.1) (0,d,m) ⟨bw _,o,by simpa[sS]using s⟩ (λ(y:Nat×D×List (S×Bool))=>⟨[(7,.int .i64 y.1),(6,.int .i64 (A.len k)),(5,.lst 73 k),(1,.box 0 0)],[.box [.cu 200 [.box 1 0]],.box [.mp 2],.map .str 4 y.2.1]⟩) ?_;rintro⟨i,r,x⟩ ⟨w,hr,e⟩;simp only at w hr e;cbv;constructor<;>intro h1
 ·have h5:i<l.length:=lY X.a a h1;have q:=GX X.a g h5;have v:=iX X.a g h5;have t:=jX X.a h5;refine p1 ?_;refine X.call (QA (dJ _ (br h5)) (fW _ (br h5)) q hr e λu r2 n j=>?_);refine p1 ?_;refine⟨(i+1,r2,u),⟨?_,n,?_⟩,?_,?_⟩
  ·simp only;omega
  ·simp only[sS]at j ⊢;rw[fu h5,<-bL];exact j
  ·simp only;omega
  exact yc
 have h5:i=b:=gY X.a a h1;subst h5;rw[f,bz]at e;cbv;exact h _ r hr e
end
end Go.VC.cc
namespace Go.VC
def yT(x:IF):List S:=(Bm x).filter λs=>s != x.path
end Go.VC
namespace Go.VC.cc
open Go Go.VC Go.Proofs
def TB{x:IF}{t:S}{c1 c2 u c4:D}{K:PV->List Ob->Prop}(hx:lQ x t c1 c2 u c4)(dJ:x.ok)(hw:x.wt<=4294967295)
 (h:∀(l:List S) r,r=bt cT l->mz l->(∀s,s∈l↔s∈yT x)->K (.lst 9 r) []):
 FT 155 [] [qN t c1 c2 u c4] K:=by
 obtain⟨x0,G,I,P,au⟩:=hx;have nt:=dJ.nt;have nv:=dJ.nv;have na:=dJ.na;have M:=vz x;have R:∀y∈x.types,y.wt<=4294967295:=λy hy=>by have:=ql (f:=TE.wt) hy;unfold IF.wt at hw;omega
 have T:∀y∈x.values,y.wt<=4294967295:=λy hy=>by have:=ql (f:=VE.wt) hy;unfold IF.wt at hw;omega
 have wp:∀(l:List Pm) n,(l.map Pm.wt).sum<=n->∀p∈l,p.bound.size<=n:=λl n hn p hp=>by have:=ql (f:=Pm.wt) hp;unfold Pm.wt at *;omega
 refine en ZJ Tryz.func155 λA C L X=>?_;obtain⟨q,v,e⟩:=lenOf G;obtain⟨k,B,g⟩:=lenOf I;obtain⟨o,H,d⟩:=lenOf P;cbv;refine lP X (λy=>y.1<=q/\y.2.1=bt cM y.2.2/\jB y.2.2 ((x.types.take y.1).flatMap sK)) (λy=>q-y.1) (0,.list [],[]) ⟨bw _,rfl,jB.nil⟩ [0,1,2,3] (λ(y:Nat×D×List (S×Bool))=>⟨[(18,.int .i64 y.1),(17,.int .i64 (A.len c1)),(16,.lst 136 c1),(1,.box 0 0),(3,.box 2 0),(4,.box 3 0),(5,.cu 202 [.box 3 0])],[.box [.str t,.lst 136 c1,.lst 91 c2,.lst 210 u,.lst 213 c4],.map .str 4 y.2.1,.box [.mp 1],.box [.cu 200 [.box 2 0]]]⟩) ?_;rintro⟨i,r,m⟩ ⟨N,hr,j⟩;simp only at N hr j;cbv;constructor<;>intro h1
 ·have h5:i<x.types.length:=lY X.a e h1;obtain⟨k0,Q,k2,k3⟩:=mQ X.a G h5;have c:=dJ.t _ (br h5);have z:=R _ (br h5);have U:1+(x.types[i].params.map Pm.wt).sum+x.types[i].lower.size+x.types[i].upper.size<=4294967295:=z;have W:=iX X.a G h5;have V:=jX X.a h5;refine p1 ?_;refine X.call (Xd c.np c.p (wp _ _ yO) Q hr j λm1 r1 O E=>?_);refine p1 ?_;refine X.call (QA c.lo yO k2 O E λm2 r2 w F=>?_);refine p1 ?_;refine X.call (QA c.up yO k3 w F λm3 r3 ah ad=>?_);refine p1 ?_;refine⟨(i+1,r3,m3),⟨?_,ah,?_⟩,?_,[0,1,2,3],rfl,?_⟩
  ·simp only;omega
  ·simp only;rw[fu h5];simpa only[sK,bL]using ad
  ·simp only;omega
  exact yc
 have h5:i=q:=gY X.a e h1;subst h5;rw[v,bz]at j;cbv;refine lP X (λy=>y.1<=k/\y.2.1=bt cM y.2.2/\jB y.2.2 (x.types.flatMap sK++(x.values.take y.1).flatMap uX)) (λy=>k-y.1) (0,r,m) ⟨bw _,hr,yU j⟩ [0,1,2,3] (λ(y:Nat×D×List (S×Bool))=>⟨[(38,.int .i64 y.1),(37,.int .i64 (A.len c2)),(36,.lst 91 c2),(1,.box 0 0),(3,.box 2 0),(4,.box 3 0),(5,.cu 202 [.box 3 0])],[.box [.str t,.lst 136 c1,.lst 91 c2,.lst 210 u,.lst 213 c4],.map .str 4 y.2.1,.box [.mp 1],.box [.cu 200 [.box 2 0]]]⟩) ?_;clear hr j h1 N;rintro⟨i,r,m⟩ ⟨N,hr,j⟩;simp only at N hr j;cbv;constructor<;>intro h1
 ·have h5:i<x.values.length:=lY X.a g h1;obtain⟨k0,Q,k2⟩:=pg X.a I h5;have c:=dJ.v _ (br h5);have z:=T _ (br h5);have U:1+(x.values[i].params.map Pm.wt).sum+x.values[i].ty.size<=4294967295:=z;have W:=iX X.a I h5;have V:=jX X.a h5;refine p1 ?_;refine X.call (Xd c.np c.p (wp _ _ yO) Q hr j λm1 r1 O E=>?_);refine p1 ?_;refine X.call (QA c.ty yO k2 O E λm2 r2 w F=>?_);refine p1 ?_;refine⟨(i+1,r2,m2),⟨?_,w,?_⟩,?_,[0,1,2,3],rfl,?_⟩
  ·simp only;omega
  ·simp only;rw[fu h5];simpa only[uX,bL]using F
  ·simp only;omega
  exact yc
 have h5:i=k:=gY X.a g h1;subst h5;rw[B,bz]at j;cbv;refine lP X (λy=>y.1<=o/\y.2.1=bt cM y.2.2/\jB y.2.2 (x.types.flatMap sK++x.values.flatMap uX++(x.aliases.take y.1).map (·.module))) (λy=>o-y.1) (0,r,m) ⟨bw _,hr,yU j⟩ [0,1,2] (λ(y:Nat×D×List (S×Bool))=>⟨[(54,.int .i64 y.1),(53,.int .i64 (A.len u)),(52,.lst 210 u),(1,.box 0 0),(3,.box 2 0)],[.box [.str t,.lst 136 c1,.lst 91 c2,.lst 210 u,.lst 213 c4],.map .str 4 y.2.1,.box [.mp 1]]⟩) ?_;clear hr j h1 N;rintro⟨i,r,m⟩ ⟨N,hr,j⟩;simp only at N hr j;cbv;constructor<;>intro h1
 ·have h5:i<x.aliases.length:=lY X.a d h1;have Q:=(SU X.a P h5).2.1;have W:=iX X.a P h5;have V:=jX X.a h5;have q1:A.lM r (.str (A.bG (A.cell u (bj i) 1))) [.bool true]=bt cM (lA m x.aliases[i].module):=by rw[Q,X.a,hr,pa]
  refine p1 ?_;refine⟨(i+1,_,lA m x.aliases[i].module),⟨?_,q1,?_⟩,?_,[0,1,2],rfl,?_⟩
  ·simp only;omega
  ·simp only;rw[map_take h5,<-bL];exact j.add [x.aliases[i].module]
  ·simp only;omega
  exact yc
 have h5:i=o:=gY X.a d h1;subst h5;rw[H,bz]at j;have hd:=j.del t;have q2:A.G5 r (.str t)=bt cM (xb m t):=by rw[X.a,hr,NY]
 cbv;refine X.call (F80 ?_);cbv;refine X.call (F79 q2 ?_ hd.1 λl rl ag ac M=>?_)
 ·have a:=hd.len;have b:((Bm x).filter λs=>s != t).length<=(Bm x).length:=jo _ _;exact gS (bM a (bM b (bM M hw))) yO
 cbv;refine h l rl ag ac λs=>?_;rw[M,hd.2,yT,<-x0];rfl
end Go.VC.cc
namespace Go.VC
structure KT (m:List (S×Bool)) (L:List S):Prop where
 nd:(m.map (·.1)).Nodup
 mem:∀s,s∈m.map (·.1)↔s∈L
 tr:∀x∈m,x.2=true
def UQ{k:S}{x:S×Bool}:eP (.str k) (cM x)=(k==x.1):=rfl
def uI{m:List (S×Bool)}{L:List S}(h:KT m L)(k:S):Std.asBool (Std.eY (bt cM m) (.str k) 0)=decide (k∈L):=by
 have e:Std.asBool (Std.eY (bt cM m) (.str k) 0)=decide (k∈m.map (·.1)):=by
  have a:=h.tr;clear h;show Std.asBool ((((m.map cM).find? (eP (.str k))).getD []).getD 1 .nil)=_;induction m with
  |nil=>rfl
  |cons x m b=>
   rw[bF,cI,UQ];by_cases hk:k=x.1
   ·have J:=a x yS;rw[beq_iff_eq.2 hk];have:decide (k∈(x::m).map (·.1))=true:=by simp[hk]
    rw[this];show x.2=true;exact J
   ·rw[beq_eq_false_iff_ne.2 hk];have:=b (λy c=>a y (by simp[c]));rw[this];simp[hk]
 rw[e];exact decide_eq_decide.2 (h.mem k)
def uz(m:List (S×Bool))(k:S):List (S×Bool):=m.eraseP λx=>k==x.1
def NZ{m:List (S×Bool)}{k:S}:Std.G5 (bt cM m) (.str k)=bt cM (uz m k):=by
 show D.list ((m.map cM).eraseP (eP (.str k)))=D.list ((uz m k).map cM)
 congr 1
 unfold uz;induction m with
 |nil=>rfl
 |cons x m a=>
  rw[bF,qj,qj,UQ];cases k==x.1 with
  |true=>rfl
  |false=>simp only[cond_false,bF,a]
def Nk{m:List (S×Bool)}{k s:S}(a:(m.map (·.1)).Nodup):s∈(uz m k).map (·.1)↔s∈m.map (·.1)/\s≠k:=by
 unfold uz;induction m with
 |nil=>simp
 |cons x m b=>
  rw[bF,cq]at a;rw[qj];by_cases hk:k=x.1
  ·rw[beq_iff_eq.2 hk,cond_true,bF,bx];constructor
   ·intro h;exact⟨.inr h,λe=>a.1 (by rw[<- hk,<-e];exact h)⟩
   ·rintro⟨h|h,J⟩
    ·exact absurd (h.trans hk.symm) J
    ·exact h
  ·rw[beq_eq_false_iff_ne.2 hk,cond_false,bF,bx,b a.2,bF,bx];constructor
   ·rintro(h|⟨h,J⟩)
    ·exact⟨.inl h,λe=>hk (e.symm.trans h)⟩
    ·exact⟨.inr h,J⟩
   ·rintro⟨h|h,J⟩
    ·exact .inl h
    ·exact .inr ⟨h,J⟩
def KT.del{m:List (S×Bool)}{L:List S}(h:KT m L)(k:S):KT (uz m k) (L.filter λs=>s != k) where
 nd:=by have:((uz m k).map (·.1)).Sublist (m.map (·.1)):=(uS).map _;exact this.nodup h.nd
 mem s:=by rw[Nk h.nd,h.mem];simp
 tr x hx:=h.tr x (List.mem_of_mem_eraseP hx)
def KT.add{m:List (S×Bool)}{L:List S}(h:KT m L)(k:S):KT (lA m k) (L++[k]) where
 nd:=Ab h.nd
 mem s:=by rw[vU,h.mem];simp;exact Or.comm
 tr x hx:=by
  have ht:=h.tr;clear h;induction m with
  |nil=>simp[lA]at hx;subst hx;rfl
  |cons y m ih=>
   simp only[lA]at hx;split at hx
   ·rcases bx.1 hx with rfl|hx
    ·rfl
    ·exact ht x (by simp[hx])
   ·rcases bx.1 hx with rfl|hx
    ·exact ht _ yS
    ·exact ih hx (λy hy=>ht y (by simp[hy]))
def KT.of{m:List (S×Bool)}{L a:List S}(h:KT m L)(e:∀s,s∈L↔s∈a):KT m a:=⟨h.nd,λs=>by rw[h.mem,e],h.tr⟩
def KT.nil:KT [] []:=⟨yS,yS,yS⟩
def OE(o:BB):tg 1 o (false,false)=o:=by unfold tg Rh;simp
end Go.VC
namespace Go.VC.cc
open Go Go.VC Go.Proofs
section
variable {env:List IF}{de d c:D}{t:Ty}{f:Int}{c1 c2:S}{K:PV->List Ob->Prop}
def U2:dH:={tt:=tt,n:=17,live:=[330],eh:=[330],iU:=[(5,[0,1,2,3])],pC:=[]}
def aaF{x:S}(he:de=bt dy env)(dJ:ey env)(e:Ty.le 4294967295 t)(i:cr t f c1 c2 d c)
 (h:∀a b,(a,b)=qa env x t->K (.tup [.bool a,.bool b]) []):FT 312 [] [.lst 97 de,dQ f c1 c2 d c,.str x] K:=by
 refine en U2 Tryz.func312 λA C L X=>?_;cbv;refine X.call (aaA (p:=false) (n:=false) he dJ t e yD (.inr rfl) (.inr rfl) i λa b l k g j hu=>?_);rw[OE]at hu;rcases g with rfl|rfl<;>rcases j with rfl|rfl<;>cbv
 repeat' (first|apply bk|exact zf|(intro J;cbv)|apply bB)
 all_goals exact h a b hu
def W4{n:D}(he:de=bt dy env)(dJ:ey env){ps:List Pm}(w:n=bt dB ps)(H:ps.length<=4294967295)(E:Ty.le 4294967295 t)(I:cr t f c1 c2 d c)
 (h:∀b,b=j7 env t [] ps->K (.bool b) []):FT 300 [] [.lst 97 de,.lst 73 n,dQ f c1 c2 d c] K:=by
 refine en (cf 49) Tryz.func300 λA C L X=>?_;have Z:=oY X.a;obtain⟨o,s,g⟩:=lenOf w;cbv;refine lP X (λy=>y.1<=o/\∃seen m,y.2=bt cM m/\KT m seen/\j7 env t [] ps=j7 env t seen (ps.drop y.1)) (λy=>o-y.1) (0,.list []) ⟨bw _,[],[],rfl,KT.nil,rfl⟩ [0,1] (λ(y:Nat×D)=>⟨[(15,.int .i64 y.1),(14,.int .i64 (A.len n)),(13,.lst 73 n),(7,.mp 1),(0,.lst 97 de),(5,.box 0 0)],[.box [.int .i64 f,.str c1,.str c2,.lst 29 d,.lst 57 c],.map .str 4 y.2]⟩) ?_;rintro⟨i,dm⟩ ⟨M,seen,m,r,B,hr⟩;simp only at M r hr;cbv;constructor<;>intro h1
 ·have h5:i<ps.length:=lY X.a g h1;obtain⟨u,G⟩:=Es X.a w h5;have F:=iX X.a w h5;have z:=jX X.a h5;have l:A.asBool (A.eY dm (.str (A.bG (A.cell n (bj i) 0))) 0)=decide (ps[i].name∈seen):=by rw[u,X.a,r];exact uI B _
  have p:A.lM dm (.str (A.bG (A.cell n (bj i) 0))) [.bool true]=bt cM (lA m ps[i].name):=by rw[u,X.a,r];exact pa
  rw[bJ h5,j7]at hr;have x:A.eq (A.asInt (A.cell n (bj i) 1)) 0=(ps[i].var==0):=by rw[Z,G]
  have v:A.eq (A.asInt (A.cell n (bj i) 1)) 1=(ps[i].var==1):=by rw[Z,G]
  have k:decide (ps[i].name∈seen)=true->j7 env t [] ps=j7 env t seen (ps.drop (i+1)):=by intro e;rw[hr,if_pos (yU e)]
  have j:decide (ps[i].name∈seen)=false->j7 env t [] ps=if(ps[i].var=0/\(qa env ps[i].name t).2=true)\/(ps[i].var=1/\(qa env ps[i].name t).1=true)then false else j7 env t (seen++[ps[i].name]) (ps.drop (i+1)):=by intro e;rw[hr,if_neg (yU e)]
  clear h1;cbv;repeat' (first|apply bk|exact zf|(intro J;cbv)|apply bB|(refine X.call (aaF he dJ E I λa b q=>?_);cbv))
  any_goals first|exact F|exact z
  ·have g1:A.asBool (A.eY dm (.str (A.bG (A.cell n (bj i) 0))) 0)=true:=yA;exact⟨(i+1,_),⟨yP,seen,m,r,B,k (l.symm.trans g1)⟩,yP,[0,1],rfl,yc⟩
  all_goals (
   have g1:A.asBool (A.eY dm (.str (A.bG (A.cell n (bj i) 0))) 0)=false:=yA;have j:=j (l.symm.trans g1);have q:(a,b)=qa env (A.bG (A.cell n (bj i) 0)) t:=q;rw[u]at q;rw[<- q]at j;simp only at j;simp only[fP,x,v]at *)
  all_goals first
   |(refine h _ ?_;rw[j];clear j h k l p;simp_all;done)
   |(refine⟨(i+1,_),⟨yP,seen++[ps[i].name],_,p,B.add _,?_⟩,yP,[0,1],rfl,?_⟩
     ·rw[j];clear j h k l p;simp_all;done
     exact yc)
 ·have h5:i=o:=gY X.a g h1;cbv;rw[h5,s,ch]at hr;exact h _ hr.symm
end
end Go.VC.cc
namespace Go.VC
open Go
section
variable {α:Type}{k s:S}
def fm{α:Type}(f:α->List D)(x:S×α):List D:=.str x.1::f x.2
def iV{α:Type}(k:S)(v:α):List (S×α)->List (S×α)
 |[]=>[(k,v)]
 |x::r=>if k=x.1 then(k,v)::r else x::iV k v r
def MX{f:α->List D}{x:S×α}:eP (.str k) (fm f x)=(k==x.1):=rfl
def lB{f:α->List D}{m:List (S×α)}{v:α}:Std.lM (bt (fm f) m) (.str k) (f v)=bt (fm f) (iV k v m):=by
 show D.list (iT (.str k) (f v) (m.map (fm f)))=D.list ((iV k v m).map (fm f))
 congr 1
 induction m with
 |nil=>rfl
 |cons x m a=>
  simp only[bF,iT,iV];rw[MX];by_cases h:k=x.1
  ·rw[if_pos (by simp[h]),if_pos h];rfl
  ·rw[if_neg (by simp[h]),if_neg h,bF,<-a]
def fE{α:Type}(m:List (S×α))(k:S):Option α:=(m.find? λx=>k==x.1).map (·.2)
def uo{f:α->List D}(m:List (S×α))(k:S):(m.map (fm f)).find? (eP (.str k))=(m.find? λx=>k==x.1).map (fm f):=by
 induction m with
 |nil=>rfl
 |cons x m a=>
  rw[bF,cI,cI,MX];cases k==x.1 with
  |true=>rfl
  |false=>exact a
def lD{f:α->List D}{m:List (S×α)}:Std.nh (bt (fm f) m) (.str k)=(fE m k).isSome:=by
 show (m.map (fm f)).any (eP (.str k))=_;rw[fE,Oc];induction m with
 |nil=>rfl
 |cons x m a=>
  rw[bF,Ge,cI,MX];cases k==x.1 with
  |true=>rfl
  |false=>rw[Bool.false_or];exact a
def lE{f:α->List D}{m:List (S×α)}{v:α}(h:fE m k=some v)(j:Nat):Std.eY (bt (fm f) m) (.str k) j=(f v).getD j .nil:=by
 show (((m.map (fm f)).find? (eP (.str k))).getD []).getD (j+1) .nil=_;rw[uo];unfold fE at h;cases a:m.find? λx=>k==x.1 with
 |none=>rw[a]at h;cases h
 |some x=>rw[a]at h;cases h;rfl
def uH{f:α->List D}{m:List (S×α)}(h:fE m k=none)(j:Nat):Std.eY (bt (fm f) m) (.str k) j= .nil:=by
 show (((m.map (fm f)).find? (eP (.str k))).getD []).getD (j+1) .nil=_;rw[uo];unfold fE at h;cases a:m.find? λx=>k==x.1 with
 |none=>rfl
 |some x=>rw[a]at h;cases h
def ll{m:List (S×α)}{v:α}:fE (iV k v m) s=if s=k then some v else fE m s:=by
 unfold fE;induction m with
 |nil=>
  by_cases h:s=k
  ·subst h;simp[iV]
  ·simp[iV,h]
 |cons x m b=>
  simp only[iV];by_cases hk:k=x.1
  ·rw[if_pos hk];by_cases h:s=k
   ·subst h;simp
   ·rw[if_neg h];have:(s==x.1)=false:=by rw[<- hk];simpa using h
    rw[cI,cI,this];have J:(s==k)=false:=yU h;simp[J]
  ·rw[if_neg hk,cI,cI];cases hs:s==x.1 with
   |true=>have:s=x.1:=yU hs;have a:s≠k:=λe=>hk (e.symm.trans this);simp[a]
   |false=>exact b
def Em{m:List (S×α)}{v:α}:s∈(iV k v m).map (·.1)↔s=k\/s∈m.map (·.1):=by
 induction m with
 |nil=>simp[iV]
 |cons x m a=>
  simp only[iV];split
  ·rename_i h;simp only[bF,bx,<-h];constructor
   ·rintro(h1|h1);exact .inl h1;exact .inr (.inr h1)
   ·rintro(h1|h1|h1);exact .inl h1;exact .inl h1;exact .inr h1
  ·simp only[bF,bx,a];constructor
   ·rintro(h1|h1|h1);exact .inr (.inl h1);exact .inl h1;exact .inr (.inr h1)
   ·rintro(h1|h1|h1);exact .inr (.inl h1);exact .inl h1;exact .inr (.inr h1)
def rD{m:List (S×α)}{v:α}(h:(m.map (·.1)).Nodup):((iV k v m).map (·.1)).Nodup:=by
 induction m with
 |nil=>simp[iV]
 |cons x m a=>
  rw[bF,cq]at h;simp only[iV];split
  ·rename_i hk;rw[bF,cq];exact⟨by simp only[hk];exact h.1,h.2⟩
  ·rename_i hk;rw[bF,cq,Em];exact⟨λe=>by rcases e with e|e;exact hk e.symm;exact h.1 e,a h.2⟩
def Pa{m:List (S×α)}{v:α}:(iV k v m).length<=m.length+1:=by
 induction m with
 |nil=>simp[iV]
 |cons x m a=>simp only[iV];split<;>simp;omega
def ze{m:List (S×α)}:k∈m.map (·.1)↔(fE m k).isSome=true:=by
 unfold fE;rw[Oc];induction m with
 |nil=>simp
 |cons x m a=>
  rw[bF,bx,cI];by_cases h:k=x.1
  ·simp[h]
  ·have:(k==x.1)=false:=yU h;rw[this];simp only[h,false_or];exact a
def tj(i:IF)(n:S):Option TE:=i.types.find? λx=>x.name==n
structure TM (m:List (S×TE)) (i:IF):Prop where
 nd:(m.map (·.1)).Nodup
 get:∀n,fE m n=tj i n
def jE(i:IF)(m n:S):Option S:=match lR [i] m n with
 | .th _ n' _=>if(tj i n').isSome then some n' else none
 | .val _ n' _=>if(tj i n').isSome then some n' else none
 |_=>none
def MA{i:IF}{p n r0 a:S}{r2:Int}(hr:(r0,a,r2)=(match lR [i] p n with| .nf=>([],[],6)| .loop=>([],[],14)| .th m' n' _=>(m',n',0)| .val m' n' _=>(m',n',0):S×S×Int)):
 (jE i p n).isSome=(r2==0&&(tj i a).isSome)/\((jE i p n).isSome=true->jE i p n=some a):=by
 unfold jE;generalize lR [i] p n=e at hr;cases e with
 |th m' n' x=>have hr:(r0,a,r2)=(m',n',0):=hr;cases hr;simp only;cases b:tj i a<;>simp[b]
 |val m' n' x=>have hr:(r0,a,r2)=(m',n',0):=hr;cases hr;simp only;cases b:tj i a<;>simp[b]
 |nf=>have hr:(r0,a,r2)=([],[],6):=hr;cases hr;simp
 |loop=>have hr:(r0,a,r2)=([],[],14):=hr;cases hr;simp
end
end Go.VC
namespace Go.VC.cc
open Go Go.VC Go.Proofs
section
variable {K:PV->List Ob->Prop}
def FC.g3{P:Program}{tt:TypeId->Option TI}{f:FuncId}{objs:List Ob}{a b c:PV}{rest:List PV}(h:FC P tt f objs (.agg [a,b,.undef]::rest) K):FC P tt f objs (.agg [a,b,c]::rest) K:=by
 intro E Pp w vals d e;refine h E Pp w vals d ?_;cases e with
 |cons v _ vs _ h1 J=>
  refine .cons _ _ _ _ ?_ J;cases h1 with
  |agg us _ hl=>
   cases hl with|cons _ _ _ _ ha hl=>cases hl with|cons _ _ _ _ hb hl=>cases hl with|cons _ _ _ _ hc hl=>
   cases hl;exact .agg _ _ (.cons _ _ _ _ ha (.cons _ _ _ _ hb (.cons _ _ _ _ (.undef _) .nil)))
def WX{i:IF}(q:i.ok){m:List (S×TE)}(o:TM m i){d dT:D}(l:d=bt dy [i])(hT:dT=bt (fm fZ) m){p n:S}
 (h:∀e b,b=(jE i p n).isSome->(b=true->jE i p n=some e)->K (.tup [.str e,.bool b]) []):
 FT 345 [] [.agg [.lst 97 d,.dmp 136 dT,.undef],.str p,.str n] K:=by
 have dJ:ey [i]:=⟨yS,yU q⟩;refine en (cf 35) Tryz.func345 λA C L X=>?_;have Z:=oY X.a;have a:∀k:S,A.nh dT (.str k)=(tj i k).isSome:=λk=>by rw[X.a,hT,lD,o.get]
 cbv;refine X.call (TZ l dJ λr0 g r2 hr=>?_);obtain⟨c,f⟩:=MA hr;have key:∀b,b=(r2==0&&(tj i g).isSome)->K (.tup [.str g,.bool b]) []:=λb hb=>h _ _ (hb.trans c.symm) (λj=>f (by rw[c,<-hb,j]));clear c f hr h;cbv;repeat' (first|apply bk|exact zf|(intro J;cbv)|apply bB)
 all_goals (refine key _ ?_;have e:=a g;clear a key;simp only[fP,Z]at *;simp_all;done)
end
end Go.VC.cc
namespace Go.VC
open Classical
section
variable {k:S}{l:List S}
def ja(j:Jm):S:=j.1.wr++j.2.wr
def zl{a b:Jm}(h:ja a=ja b):a=b:=by obtain⟨h1,J⟩:=key_inj h;exact fq h1 J
def Mr{m:List (S×Bool)}{s:S}(a:(m.map (·.1)).Nodup):fE (uz m k) s=if s=k then none else fE m s:=by
 unfold fE uz;induction m with
 |nil=>simp
 |cons x m b=>
  rw[bF,cq]at a;rw[qj];by_cases hk:k=x.1
  ·rw[beq_iff_eq.2 hk,cond_true];by_cases hs:s=k
   ·rw[if_pos hs];have:m.find? (λy=>s==y.1)=none:=by rw[gg];intro y c e;have e:s=y.1:=yU e;exact a.1 (bH.2 ⟨y,c,by rw[<- e,hs,hk]⟩)
    rw[this];rfl
   ·rw[if_neg hs,cI];have:(s==x.1)=false:=by rw[beq_eq_false_iff_ne];exactλe=>hs (e.trans hk.symm)
    rw[this]
  ·rw[beq_eq_false_iff_ne.2 hk,cond_false,cI,cI];by_cases hs:s=x.1
   ·rw[beq_iff_eq.2 hs];have:¬s=k:=λe=>hk (e.symm.trans hs);rw[if_neg this]
   ·rw[beq_eq_false_iff_ne.2 hs];exact b a.2
def HC{m:List (S×Bool)}(a:(m.map (·.1)).Nodup):((uz m k).map (·.1)).Nodup:=by unfold uz;exact List.Nodup.sublist ((uS).map _) a
def o7(m:List (S×Bool))(l:List S):List (S×Bool):=l.foldl uz m
def HB{m:List (S×Bool)}:o7 m (l++[k])=uz (o7 m l) k:=by simp[o7]
def Kf:∀{m:List (S×Bool)},(m.map (·.1)).Nodup->((o7 m l).map (·.1)).Nodup/\∀s,fE (o7 m l) s=if s∈l then none else fE m s:=by
 induction l with
 |nil=>intro m h;exact⟨h,λs=>by simp[o7]⟩
 |cons k l a=>intro m h;obtain⟨h1,J⟩:=a (HC (k:=k) h);refine⟨h1,λs=>?_⟩;rw[show o7 m (k::l)=o7 (uz m k) l from rfl,J,Mr h];by_cases e:s∈l<;>by_cases e2:s=k<;>simp[e,e2]
structure MK (m:List (S×Bool)) (g b:List Jm):Prop where
 nd:(m.map (·.1)).Nodup
 lk:∀j,fE m (ja j)=if j∈g then some true else if j∈b then some false else none
def MK.nil:MK [] [] []:=⟨yS,λj=>by simp[fE]⟩
def MK.push{m:List (S×Bool)}{g b:List Jm}{j:Jm}(h:MK m g b):MK (iV (ja j) true m) (g++[j]) b:=by
 refine⟨rD h.nd,λx=>?_⟩;rw[ll];by_cases e:x=j
 ·rw[if_pos (by rw[e]),if_pos (by simp[e])]
 ·rw[if_neg (λe'=>e (zl e')),h.lk];by_cases a:x∈g
  ·rw[if_pos a,if_pos (by simp[a])]
  ·rw[if_neg a,if_neg (c:=x∈g++[j]) (by simp[a,e])]
def MK.bad{m:List (S×Bool)}{g b:List Jm}{j:Jm}(h:MK m g b)(a:j∉g):MK (iV (ja j) false m) g (b++[j]):=by
 refine⟨rD h.nd,λx=>?_⟩;rw[ll];by_cases e:x=j
 ·rw[if_pos (by rw[e]),if_neg (by rw[e];exact a),if_pos (by simp[e])]
 ·rw[if_neg (λe'=>e (zl e')),h.lk];by_cases hb:x∈b
  ·rw[if_pos hb,if_pos (c:=x∈b++[j]) (by simp[hb])]
  ·rw[if_neg hb,if_neg (c:=x∈b++[j]) (by simp[hb,e])]
def MK.del{m:List (S×Bool)}{g x b:List Jm}(h:MK m (g++x) b)(f:(g++x).Nodup)(i:∀j∈g++x,j∉b):MK (o7 m (x.map ja)) g b:=by
 obtain⟨h1,J⟩:=Kf (l:=x.map ja) h.nd;refine⟨h1,λj=>?_⟩;rw[J,h.lk];have hk:ja j∈x.map ja↔j∈x:=by rw[bH];exact⟨λ⟨y,o,e⟩=>zl e▸o,λn=>⟨j,n,rfl⟩⟩
 rw[dk]at f;by_cases d:j∈x
 ·rw[if_pos (hk.2 d)];have a:j∉g:=λa=>f.2.2 j a j d rfl;rw[if_neg a,if_neg (i j (by simp[d]))]
 ·rw[if_neg (λe=>d (hk.1 e))];by_cases a:j∈g
  ·rw[if_pos (c:=j∈g++x) (by simp[a]),if_pos a]
  ·rw[if_neg (c:=j∈g++x) (by simp[a,d]),if_neg a]
end
end Go.VC
namespace Go.Proofs
open Go.Shelf
def Tryz.wG:Go.Shelf.Ren:=⟨fun|169=>132|n=>n,fun|70=>190|9=>9|0=>0|72=>193|37=>191|127=>241|3=>3|5=>5|n=>n,fun|n=>n⟩
def Tryz.PA:Go.Proofs.Lays.n169 Tryz.prog Tryz.wG:=by constructor<;>first|kernel_rfl|(intro w;kernel_rfl)
def Tryz.uL:Builder.Extra Tryz.prog Tryz.wG:={
 sizeBuilder:=by kernel_rfl
 liesBuilder:=by kernel_rfl
 t5:=Tryz.underlying5
 a5:=Tryz.isAgg5
 z5:=Tryz.sizeOf5
 v5:=Tryz.zeroValue5
 infoByte:=by kernel_rfl
 cellsByte:=by kernel_rfl
 sizeByte:=by kernel_rfl
 neB5:=by decide }
def Tryz.wF:Go.Shelf.Ren:=⟨fun|240=>186|276=>219|n=>n,fun|0=>0|4=>4|9=>9|20=>20|70=>190|72=>193|164=>278|37=>191|n=>n,fun|n=>n⟩
def Tryz.I1:Go.Proofs.Lays.n240 Tryz.prog Tryz.wF:=by constructor<;>first|kernel_rfl|(intro w;kernel_rfl)
def Tryz.pZ:Builder.X72 Tryz.prog Tryz.wF:={
 sizeBuilder:=by kernel_rfl
 liesBuilder:=by kernel_rfl }
end Go.Proofs
namespace Go.VC.cc
open Go Go.VC Go.Proofs Go.Shelf
section
variable {d:D}{p:PV}{K:PV->List Ob->Prop}
def V1:∀t ti,tt t=some ti->ti.P9=true->t=193:=by
 intro t ti h hb
 have key:∀l:List (TypeId×TI),(∀x∈l,x.2.P9=true->x.1=193)->∀t ti,wJ l t=some ti->ti.P9=true->t=193:=by
  intro l;induction l with
  |nil=>intro _ t ti h;simp[wJ]at h
  |cons x r c=>
   obtain⟨k,i⟩:=x;intro a t ti h hb;simp only[wJ]at h;cases hk:nb k t with
   |true=>rw[hk]at h;simp only[cond_true,cw]at h;subst h;have b:k=t:=cX hk;rw[<- b];exact a (k,i) yS hb
   |false=>rw[hk]at h;exact c (λy e=>a y (by simp[e])) t ti h hb
 have g:(JB.all λx=> !x.2.P9||x.1==193)=true:=by kernel_rfl
 exact key JB (λx a hb=>by simpa[hb]using dE.1 g x a) t ti h hb
def KM(a:p= .nilp\/p= .box 0 0)(h:K (.tup []) [.box [.box 0 0,.row 5 1],.row 5 d true]):
 FT 186 [.box [p,.row 5 1],.row 5 d true] [.box 0 0] K:=
 Dv (T:=193) V1 (enters_of Tryz.func186 (by kernel_rfl) rfl) (λb w h0=>Any.Builder_copyCheck_used Tryz.I1 Tryz.pZ b w h0)
  (λb w h0 hs hf=>Any.Builder_copyCheck_fresh Tryz.I1 Tryz.pZ b w h0 hs hf) a h
def TD{s:List UInt8}(h0:s≠[])(hl:s.length<=4294967296)(a:d= .list (dR s))(c:pt p=true)(h:K (.str s) [.dead,.dead]):
 FT 132 [.box [p,.row 5 1],.row 5 d true] [.box 0 0] K:=
 KL (T:=193) (e:=5) V1 (by kernel_rfl) (enters_of Tryz.func132 (by kernel_rfl) rfl) (λb g o cap p cur l w a1 a2 a3 a4 a5 i f=>HU Tryz.PA Tryz.uL b g o cap p cur l w a1 a2 a3 a4 a5 i f) h0 hl a c h
end
def Vv:dH:={tt:=tt,n:=19,n0:=2,live:=[186]}
def uJ{l:List UInt8}{d:D}{p:PV}(a:d= .list (dR l))(b:p= .nilp\/p= .box 0 0){s:S}(hs:l.length+s.length<=4294967296){K:PV->List Ob->Prop}
 (h:∀r,r= .list (dR (l++s))->K (.tup [.int .i64 (bj s.length),.undef]) [.box [.box 0 0,.row 5 2],.dead,.row 5 r true]):FT 130 [.box [p,.row 5 1],.row 5 d true] [.box 0 0,.str s] K:=by
 refine el Vv Tryz.func130 λA C L X=>?_;have e1:A.app d (A.OP s)= .list (dR (l++s)):=by rw[X.a,a];simp[Std,dR,cg]
 have e3:A.gr (A.add (A.len d) (A.len (A.OP s))) 4294967296:=by obtain rfl:=X.a;subst a;simp[Std,dR,cg];omega
 have e2:A.fe s=bj s.length:=yX;rcases b with rfl|rfl
 ·cbv;refine X.call (KM (.inl rfl) ?_);cbv;exact⟨e3,by have q:=h _ e1;rw[<- e2]at q;exact q⟩
 ·cbv;refine X.call (KM (.inr rfl) ?_);cbv;exact⟨e3,by have q:=h _ e1;rw[<- e2]at q;exact q⟩
def Vd:dH:={tt:=tt,n:=17,n0:=2,live:=[186]}
def abp{l:List UInt8}{d:D}{p:PV}(b:d= .list (dR l))(e:p= .nilp\/p= .box 0 0){c:UInt8}(hs:l.length+1<=4294967296){K:PV->List Ob->Prop}
 (h:∀r,r= .list (dR (l++[c]))->K .undef [.box [.box 0 0,.row 5 2],.dead,.row 5 r true]):FT 207 [.box [p,.row 5 1],.row 5 d true] [.box 0 0,.int .u8 (c.toNat:Int)] K:=by
 refine el Vd Tryz.func207 λA C L X=>?_;obtain⟨x,a⟩:∃x,x=(c.toNat:Int):=⟨_,rfl⟩;rw[<- a];have e1:A.app d (A.lit [[.int x]])= .list (dR (l++[c])):=by rw[X.a,b,a];simp[Std,dR,cg]
 have e3:A.gr (A.add (A.len d) (A.len (A.lit [[.int x]]))) 4294967296:=by obtain rfl:=X.a;subst b;simp[Std,dR,cg];omega
 clear a;rcases e with rfl|rfl
 ·cbv;refine X.call (KM (.inl rfl) ?_);cbv;exact⟨e3,by have q:=h _ e1;exact q⟩
 ·cbv;refine X.call (KM (.inr rfl) ?_);cbv;exact⟨e3,by have q:=h _ e1;exact q⟩
end Go.VC.cc
namespace Go.VC
section
variable {i:Nat}{l:List Fe}
def Ty.Ph(t:Ty):List Int:=[t.k,bj t.m.length,bj t.n.length,bj t.ar.length,bj t.fl.length]
def QL(t:Ty):t.wr=t.Ph.flatMap tv++t.m++t.n++Ty.tq t.ar++Ty.uV t.fl:=by cases t;simp[Ty.wr,Ty.Ph,Ty.k,Ty.m,Ty.n,Ty.ar,Ty.fl,bL]
def B4:∀(l k:List Ty),Ty.tq (l++k)=Ty.tq l++Ty.tq k
 |[],k=>rfl
 |t::l,k=>by rw[dL,Ty.tq,B4 l k,Ty.tq,bL]
def B5:∀(l k:List Fe),Ty.uV (l++k)=Ty.uV l++Ty.uV k
 |[],k=>rfl
 |t::l,k=>by rw[dL,Ty.uV,B5 l k,Ty.uV,bL]
def La{l:List Ty}(h:i<l.length):Ty.tq (l.take (i+1))=Ty.tq (l.take i)++l[i].wr:=by rw[cj h,B4,Ty.tq,Ty.tq,cz]
def Lb(h:i<l.length):Ty.uV (l.take (i+1))=Ty.uV (l.take i)++l[i].wr:=by rw[cj h,B5,Ty.uV,Ty.uV,cz]
def J7{l:List Int}(h:i<l.length):(l.take (i+1)).flatMap tv=(l.take i).flatMap tv++tv l[i]:=by rw[cj h,ea];simp
def Ow{l:List Ty}:(Ty.tq (l.take i)).length<=(Ty.tq l).length:=by
 have:Ty.tq l=Ty.tq (l.take i)++Ty.tq (l.drop i):=by rw[<- B4,cV]
 rw[this];simp
def Ox:(Ty.uV (l.take i)).length<=(Ty.uV l).length:=by
 have:Ty.uV l=Ty.uV (l.take i)++Ty.uV (l.drop i):=by rw[<- B5,cV]
 rw[this];simp
def Mc{l:List Int}:((l.take i).flatMap tv).length<=(l.flatMap tv).length:=by
 have:l.flatMap tv=(l.take i).flatMap tv++(l.drop i).flatMap tv:=by rw[<- ea,cV]
 rw[this];simp
end
end Go.VC
namespace Go.VC.cc
open Go Go.VC Go.Proofs Go.Shelf
def Vn:dH:={tt:=tt,n:=83,n0:=2,live:=[130,207,163]}
abbrev aae(i:Nat)(p:PV)(r:D):List Ob:=match i with
 |0=>[.box [p,.row 5 2],.dead,.row 5 r true]
 |_+1=>[.box [.box 0 0,.row 5 2],.dead,.row 5 r true]
def Xk:∀(t:Ty),Ty.le 4294967295 t->(∀u∈t.all,0<=u.k/\u.k<=10)->∀{l:S}{d:D}{p:PV}(hd:d= .list (dR l))(hp:p= .nilp\/p= .box 0 0){G:Int}{c1 c2:S}{E b:D}(ht:cr t G c1 c2 E b)(hs:l.length+t.wr.length<=4294967296){K:PV->List Ob->Prop}
 (h:∀r,r= .list (dR (l++t.wr))->K (.tup []) [.box [.box 0 0,.row 5 2],.dead,.row 5 r true]),FT 163 [.box [p,.row 5 1],.row 5 d true] [.box 0 0,dQ G c1 c2 E b] K:=by
 refine Ty.fV λt ih=>?_;intro U W l d p hd hp G c1 c2 E b ht hs K h;obtain⟨t0,t1,t2,ad,T⟩:=ht;obtain⟨aN,aE⟩:=W t (fK t);have aF:t.ar.length<=4294967295:=by cases U;assumption
 have aJ:t.fl.length<=4294967295:=by cases U;assumption
 rw[QL]at hs;rw[QL]at h;simp only[bp]at hs;have aL:t.m.length<=4294967296:=yO;have aI:t.n.length<=4294967296:=yO;obtain⟨ns,R⟩:∃ns,ns=t.Ph:=⟨_,rfl⟩;rw[<- R]at hs h;have aq:ns.length=5:=by rw[R];rfl
 have ah:∀x∈ns,-9223372036854775808<=x/\x<=9223372036854775807:=by rw[R];intro x hx;simp only[Ty.Ph,bx,gH,or_false,bD]at hx;omega
 refine el Vn Tryz.func163 λA C L X=>?_;obtain⟨H,N,g⟩:=lenOf ad;obtain⟨P,M,o⟩:=lenOf T;have hL:A.lit [[.int G],[.int (A.fe c1)],[.int (A.fe c2)],[.int (A.len E)],[.int (A.len b)]]=kA ns:=by rw[X.a,R,t0,t1,t2,g,o,N,M];rfl
 have ac:A.len (A.lit [[.int G],[.int (A.fe c1)],[.int (A.fe c2)],[.int (A.len E)],[.int (A.len b)]])=5:=by rw[hL,X.a,o6,aq];rfl
 obtain⟨I,hI⟩:∃I:Nat×D->St,I=λy=>⟨[(26,.int .i64 y.1),(25,.int .i64 (A.len (A.lit [[.int G],[.int (A.fe c1)],[.int (A.fe c2)],[.int (A.len E)],[.int (A.len b)]]))),(24,.om 3 (A.lit [[.int G],[.int (A.fe c1)],[.int (A.fe c2)],[.int (A.len E)],[.int (A.len b)]])),(3,.box 3 0),(0,.box 0 0)],(aae y.1 p y.2)++[.box [.int .i64 G,.str c1,.str c2,.lst 29 E,.lst 57 b]]⟩:=⟨_,rfl⟩;rcases hp with rfl|rfl
 all_goals
  cbv;refine X.ka I (λy=>y.1<=5/\y.2= .list (dR (l++(ns.take y.1).flatMap tv))) (λy=>5-y.1) (0,d) ⟨bw _,yU hd⟩ ?_ ?_;all_goals subst hI
  ·exact⟨[0,1,2,3],rfl,yc⟩
  rintro⟨i,r⟩ ⟨hi,hr⟩;simp only at hi hr;have dA:A.lt (bj i) (A.len (A.lit [[.int G],[.int (A.fe c1)],[.int (A.fe c2)],[.int (A.len E)],[.int (A.len b)]]))=decide (i<5):=by rw[ac,X.a,kU];simp;omega
  by_cases h6:i<5
  ·rw[decide_eq_true h6]at dA;have h6:i<ns.length:=yO;have Q:A.idx (bj i) (A.len (A.lit [[.int G],[.int (A.fe c1)],[.int (A.fe c2)],[.int (A.len E)],[.int (A.len b)]])):=by rw[ac,X.a,n5];simp only[bD];omega
   have O:A.inr .i64 (A.add (bj i) 1):=by rw[X.a];exact fN (n:=5) yO yO
   have hc:A.asInt (A.cell (A.lit [[.int G],[.int (A.fe c1)],[.int (A.fe c2)],[.int (A.len E)],[.int (A.len b)]]) (bj i) 0)=ns[i]:=by rw[hL,X.a,BL];simp[h6]
   have hb:=ah _ (br h6);rw[<- hc]at hb;have m:=J7 h6;have v:=Mc (l:=ns) (i:=i+1);rw[m]at v;simp only[tv,bp,bI,bZ]at v;have hq:∀r:D,r= .list (dR (l++(ns.take i).flatMap tv++Lib.itoa ns[i]++[32]))->r= .list (dR (l++(ns.take (i+1)).flatMap tv)):=λr e=>by rw[e,m,tv];simp only[bL]
   rcases i with _|i
   all_goals
    cbv;refine⟨λ_=>?_,λh1=>absurd (dA.symm.trans h1) yD⟩;cbv;refine⟨Q,?_⟩;refine X.call (Qy hb.1 hb.2 λr1 a=>?_);have a:=a.trans (congrArg Lib.itoa hc);rw[<- a]at v;cbv;refine X.call (uJ hr (by first|exact .inl rfl|exact .inr rfl) (by simp only[bp];omega) λr2 z=>?_);cbv;refine X.call (abp (c:=32) z (.inr rfl) (by simp only[bp];omega) λV B=>?_);have q1:=hq V (by rw[<- a];exact B);clear a z B;cbv;repeat' (first|apply bk|exact zf|(intro J;cbv)|apply bB)
    all_goals try exact O
    refine⟨(_,V),⟨yP,q1⟩,?_,[0,1,5,3],rfl,?_⟩
    ·simp only;omega
    exact yc
  ·rw[decide_eq_false h6]at dA;obtain⟨i,rfl⟩:∃j,i=j+1:=⟨i-1,yO⟩;cbv;refine⟨λh1=>absurd (dA.symm.trans h1) yD,λ_=>?_⟩;have hr:r= .list (dR (l++ns.flatMap tv)):=by rw[hr,ek yO]
   clear dA hi hd hL ac ah;cbv;refine X.call (uJ (s:=c1) hr (.inr rfl) (by rw[t1];simp only[bp];omega) λr1 a=>?_);cbv;refine X.call (uJ (s:=c2) a (.inr rfl) (by rw[t1,t2];simp only[bp];omega) λr2 z=>?_);obtain⟨w,hw⟩:∃w,w=l++ns.flatMap tv++c1++c2:=⟨_,rfl⟩;rw[<- hw]at z;have aD:w.length=l.length+(ns.flatMap tv).length+t.m.length+t.n.length:=by rw[hw,t1,t2];simp[fi]
   have h:∀r,r= .list (dR (w++Ty.tq t.ar++Ty.uV t.fl))->K (.tup []) [.box [.box 0 0,.row 5 2],.dead,.row 5 r true]:=λr e=>h r (by rw[e,hw,t1,t2];simp only[bL]);clear hr a hw;cbv;refine lP X (λy=>y.1<=H/\y.2= .list (dR (w++Ty.tq (t.ar.take y.1)))) (λy=>H-y.1) (0,r2) ⟨bw _,by simpa[Ty.tq]using z⟩ [0,1,5,3] (λ(y:Nat×D)=>⟨[(48,.int .i64 y.1),(47,.int .i64 (A.len E)),(46,.lst 29 E),(3,.box 3 0),(0,.box 0 0)],[.box [.box 0 0,.row 5 2],.dead,.row 5 y.2 true,.box [.int .i64 G,.str c1,.str c2,.lst 29 E,.lst 57 b]]⟩) ?_;clear z;rintro⟨k,r⟩ ⟨hk,hr⟩;simp only at hk hr;cbv;constructor<;>intro h1
   ·have h5:k<t.ar.length:=lY X.a g h1;have k1:=iS X.a ad h5;have Q:=iX X.a ad h5;have O:=jX X.a h5;have F:t.ar[k]∈t.eA:=by simp[Ty.eA]
    have m:=La h5;have v:=Ow (l:=t.ar) (i:=k+1);rw[m,bp]at v;clear h1;cbv;refine⟨Q,?_⟩;refine X.call (ih _ F (iW U _ F) (λu hu=>W u (jr F hu)) hr (.inr rfl) k1 (by rw[bp];omega) λV B=>?_);have q1:V= .list (dR (w++Ty.tq (t.ar.take (k+1)))):=by rw[m,<-bL];exact B
    cbv;repeat' (first|apply bk|exact zf|(intro J;cbv)|apply bB)
    all_goals try exact O
    exact⟨(k+1,V),⟨yP,q1⟩,yP,[0,1,5,3],rfl,yc⟩
   have h5:k=H:=gY X.a g h1;rw[h5,N,bz]at hr;clear h1 hk h5;cbv;refine lP X (λy=>y.1<=P/\y.2= .list (dR (w++Ty.tq t.ar++Ty.uV (t.fl.take y.1)))) (λy=>P-y.1) (0,r) ⟨bw _,by simpa[Ty.uV]using hr⟩ [0,1,2,3] (λ(y:Nat×D)=>⟨[(59,.int .i64 y.1),(58,.int .i64 (A.len b)),(57,.lst 57 b),(3,.box 3 0),(0,.box 0 0)],[.box [.box 0 0,.row 5 2],.dead,.row 5 y.2 true,.box [.int .i64 G,.str c1,.str c2,.lst 29 E,.lst 57 b]]⟩) ?_;clear hr;rintro⟨k,r⟩ ⟨hk,hr⟩;simp only at hk hr;cbv;constructor<;>intro h1
   ·have h5:k<t.fl.length:=lY X.a o h1;have k1:=nq X.a T h5;obtain⟨k2,k3⟩:=Hq X.a T h5;have Q:=iX X.a T h5;have O:=jX X.a h5;have F:t.fl[k].t∈t.eA:=by simp only[Ty.eA,bE,bH];exact .inr ⟨_,br h5,rfl⟩
    have m:=Lb h5;have v:=Ox (l:=t.fl) (i:=k+1);have ab:t.fl[k].wr=Lib.itoa (bj (A.bG (A.cell b (bj k) 0)).length)++Lib.formatBool (A.asBool (A.cell b (bj k) 6))++A.bG (A.cell b (bj k) 0)++t.fl[k].t.wr:=by rw[k2,k3];generalize t.fl[k]=f;cases f;rfl
    rw[m,ab]at v;rw[ab]at m;simp only[bp]at v;have ai:A.fe (A.bG (A.cell b (bj k) 0))=bj (A.bG (A.cell b (bj k) 0)).length:=yX;have ag: -9223372036854775808<=A.fe (A.bG (A.cell b (bj k) 0))/\A.fe (A.bG (A.cell b (bj k) 0))<=9223372036854775807:=by obtain⟨sl,al⟩:∃sl,sl=(A.bG (A.cell b (bj k) 0)).length:=⟨_,rfl⟩;have aC:sl<=4294967296:=yO;rw[ai,<-al];simp only[bD];omega
    clear h1 k2 k3 ab;cbv;refine⟨Q,?_⟩;refine X.call (Qy ag.1 ag.2 λr1 a=>?_);have a:r1=Lib.itoa (bj (A.bG (A.cell b (bj k) 0)).length):=by rw[<- ai];exact a
    rw[<- a]at v m;cbv;refine X.call (uJ hr (.inr rfl) (by simp only[bp];omega) λr2 z=>?_);cbv;refine X.call (Xs λV B=>?_);have B:V=Lib.formatBool (A.asBool (A.cell b (bj k) 6)):=B;rw[<- B]at v m;cbv;refine X.call (uJ z (.inr rfl) (by simp only[bp];omega) λr4 ae=>?_);cbv;refine X.call (uJ (s:=A.bG (A.cell b (bj k) 0)) ae (.inr rfl) (by simp only[bp];omega) λr5 af=>?_);cbv;refine X.call (ih _ F (iW U _ F) (λu hu=>W u (jr F hu)) af (.inr rfl) k1 (by simp only[bp];omega) λr6 aa=>?_);have q1:r6= .list (dR (w++Ty.tq t.ar++Ty.uV (t.fl.take (k+1)))):=by rw[m];simp only[<- bL];(try simp only[<- bL]at aa);exact aa
    clear a z B ae af aa;cbv;repeat' (first|apply bk|exact zf|(intro J;cbv)|apply bB)
    all_goals try exact O
    exact⟨(k+1,r6),⟨yP,q1⟩,yP,[0,1,8,3],rfl,yc⟩
   ·have h5:k=P:=gY X.a o h1;rw[h5,M,bz]at hr;have q:=h r hr;cbv;exact q
end Go.VC.cc
namespace Go.VC
def T6(t:Ty):t.wr≠[]:=by cases t;rw[Ty.wr,tv];simp
abbrev kq(d:Int)(a1 a2:S)(a3 a4:D)(b:Int)(b1 b2:S)(a c:D):PV:=.agg [.int .i64 d,.str a1,.str a2,.lst 29 a3,.lst 57 a4,.int .i64 b,.str b1,.str b2,.lst 29 a,.lst 57 c]
end Go.VC
namespace Go.VC.cc
open Go Go.VC Go.Proofs Go.Shelf
def VJ:dH:={tt:=tt,n:=11,own:=[3],live:=[163,132]}
def abZ{s t:Ty}(hs:Ty.le 4294967295 s)(o:Ty.le 4294967295 t)(e:∀u∈s.all,0<=u.k/\u.k<=10)(g:∀u∈t.all,0<=u.k/\u.k<=10)(hl:s.wr.length+t.wr.length<=4294967296)
 {i:Int}{a1 a2:S}{a3 a4:D}{j:Int}{b1 b2:S}{n m:D} (ha:cr s i a1 a2 a3 a4) (hb:cr t j b1 b2 n m) {K:PV->List Ob->Prop} (h:∀r,r=s.wr++t.wr->K (.str r) []):
 FT 101 [] [kq i a1 a2 a3 a4 j b1 b2 n m] K:=by
 refine en VJ Tryz.func101 λA C L X=>?_;cbv;refine X.call (Xk s hs e (l:=[]) rfl (.inl rfl) ha yQ λp c=>?_);cbv;refine X.call (Xk t o g c (.inr rfl) hb (yU hl) λr2 b=>?_);obtain⟨key,a⟩:∃k,k=s.wr++t.wr:=⟨_,rfl⟩;have b:r2= .list (dR key):=by rw[a];simpa using b
 have d:key≠[]:=by rw[a];simp[T6]
 have f:key.length<=4294967296:=by rw[a];simpa using hl
 have q:=h key a;clear c a h;cbv;refine X.call (TD d f b rfl ?_);cbv;exact q
end Go.VC.cc
namespace Go.VC
abbrev fO(de dc dm a:D):List Ob:=[.box [.box 1 0],.box [.lst 97 de,.lst 73 dc,.mp 2,.row 9 3],.map .str 4 dm,.row 9 a true]
abbrev XY(de dc dm a:D):List Ob:=[.box [.box 1 0],.box [.lst 97 de,.lst 73 dc,.mp 2,.row 9 4],.map .str 4 dm,.dead,.row 9 a true]
end Go.VC
namespace Go.VC.cc
open Go Go.VC Go.Proofs
def VH:dH:={tt:=tt,n:=31,n0:=4,view:=[10],own:=[28],live:=[0],pC:=[22]}
def TG{de dc dm d:D}{m:List (S×Bool)}{tr:List S}(s:dm=bt cM m)(p:d=bt cT tr)(z:tr.length<=4294967290){k:Nat}{x:Int}(B:x=bj k)(hk:k<=tr.length)(j:0<tr.length)
 {K:PV->List Ob->Prop} (h:∀o g,o=bt cM (o7 m (tr.drop k))->g=bt cT (tr.take k)->K (.tup []) (XY de dc o g)):
 FT 102 (fO de dc dm d) [.int .i64 x,.box 0 0] K:=by
 subst B;refine el VH Tryz.func102 λA C L X=>?_;obtain⟨n,u⟩:∃n,n=tr.length:=⟨_,rfl⟩;have c:Std.len d=bj n:=by rw[p,dp,u];rfl
 have h0:A.idx 0 (A.len d):=by rw[X.a,p];exact cY (i:=0) j
 have r:A.gr (bj k) (A.len d):=by rw[X.a,c];simp only[SD];omega
 refine p1 ?_;refine lP X (λy=>y.1<=n-k/\y.2=bt cM (o7 m ((tr.drop k).take y.1))) (λy=>n-k-y.1) (0,dm) ⟨bw _,by simp[o7,s]⟩ [0,1,2,3,4] (λ(y:Nat×D)=>⟨[(12,.int .i64 y.1),(11,.int .i64 (A.sub (A.len d) (bj k))),(10,.fM 9 4 (bj k) 1000003),(1,.box 0 0),(0,.int .i64 (bj k))],[.box [.box 1 0],.box [.lst 97 de,.lst 73 dc,.mp 2,.row 9 4],.map .str 4 y.2,.dead,.row 9 d true]⟩) ?_;rintro⟨i,dm⟩ ⟨v,e⟩;simp only at v e;cbv;constructor<;>intro h1
 ·have h5:i<n-k:=by obtain rfl:=X.a;simp only[c,SD]at h1;omega
  have h6:k+i<tr.length:=yO;have w:A.idx (bj i) (A.sub (A.len d) (bj k)):=by rw[X.a,c];exact⟨yL,by show _<bj n-bj k;simp only[bD];omega⟩
  have t:A.inr .i64 (A.add (bj i) 1):=by rw[X.a];exact fN (n:=n) yO yO
  have e1:A.bG (A.cell d (A.add (bj k) (bj i)) 0)=tr[k+i]:=by have:A.add (bj k) (bj i)=bj (k+i):=yX;rw[this];exact pT X.a p h6
  have e2:A.G5 dm (.str (A.bG (A.cell d (A.add (bj k) (bj i)) 0)))=bt cM (o7 m ((tr.drop k).take (i+1))):=by
   rw[e1,X.a,e,NZ,<-HB]
   congr 2
   rw[cj yQ];simp
  clear h1;refine p1 ?_;exact⟨(i+1,_),⟨yP,e2⟩,yP,[0,1,2,3,4],rfl,yc⟩
 ·have h5:i=n-k:=by obtain rfl:=X.a;simp only[c,SD]at h1;omega
  have e3:A.part d 0 (bj k)=bt cT (tr.take k):=by rw[X.a,p];have:=o9 (f:=cT) (l:=tr) (a:=0) (b:=k);simpa using this
  have q:=h dm _ (by rw[e,h5,ek yQ]) e3;clear h1;cbv;repeat' (first|apply bk|exact zf|(intro J;cbv)|apply bB)
  all_goals first|exact h0|exact r|exact q|skip
  all_goals trace_state
end Go.VC.cc
namespace Go.VC
def Mm(i:IF)(g:List S)(t:Ty):Bool:=t.k==10&&(match jE i t.m t.n with|some e=>g.contains e|none=>false)
def lH(i:IF)(n:S):List U:=((tj i n).getD TE.zero).lower.iO++((tj i n).getD TE.zero).upper.iO
def Hz(i:IF)(n e:S):Prop:=∃u∈lH i n,jE i u.1 u.2=some e
def xB:TE.zero.lower.iO++TE.zero.upper.iO=[]:=by simp[TE.zero,Ty.zero,Ty.iO,Ty.AQ,Ty.AR]
end Go.VC
namespace Go.VC.cc
open Go Go.VC Go.Proofs
def WY{i:IF}(x:i.ok){m:List (S×TE)}(o:TM m i){d dT dg:D}(n:d=bt dy [i])(hT:dT=bt (fm fZ) m){g:List S}(w:dg=bt cT g)(j:g.length<=4294967295)
 {t:Ty}{a:Int}{c1 c2:S}{k l:D}{K:PV->List Ob->Prop} (u:cr t a c1 c2 k l) (h:∀b,b=Mm i g t->K (.bool b) []):
 FT 333 [] [.agg [.lst 97 d,.dmp 136 dT,.undef],dQ a c1 c2 k l,.lst 9 dg] K:=by
 obtain⟨s,q,p,v,r⟩:=u;unfold Mm at h;rw[<- s,<-q,<-p]at h;refine en (cf 29) Tryz.func333 λA C L X=>?_;have Z:=oY X.a;cbv;refine X.call (WX x o n hT λe b hb he=>?_);have f:b=false->jE i c1 c2=none:=λh=>by rw[h]at hb;simpa using hb.symm
 cbv;repeat' (first|apply bk|exact zf|(intro J;cbv)|apply bB|(refine X.call (Rr w j λb2 c=>?_);cbv))
 ·have e1:A.eq a 10=true:=yA;have e2:b=true:=yA;rw[Z]at e1;refine h _ ?_;rw[e1,he e2,c];rfl
 ·have e1:A.eq a 10=true:=yA;have e2:b=false:=yA;rw[Z]at e1;refine h _ ?_;rw[f e2,oE]
 ·have e1:A.eq a 10=false:=yA;rw[Z]at e1;refine h _ ?_;rw[e1,tp]
end Go.VC.cc
namespace Go.VC
section
variable {A:pP}{i:IF}{us:List U}{l:List S}
def QQ(ha:A=Std){dT:D}{m:List (S×TE)}(hT:dT=bt (fm fZ) m){k:S}{x:TE}(h:fE m k=some x):
 p8 x (A.bG (A.eY dT (.str k) 0)) (A.eY dT (.str k) 1) (A.asInt (A.eY dT (.str k) 2)) (A.bG (A.eY dT (.str k) 3)) (A.bG (A.eY dT (.str k) 4)) (A.eY dT (.str k) 5) (A.eY dT (.str k) 6) (A.asInt (A.eY dT (.str k) 7)) (A.bG (A.eY dT (.str k) 8)) (A.bG (A.eY dT (.str k) 9)) (A.eY dT (.str k) 10) (A.eY dT (.str k) 11):=by
 subst ha hT;simp only[lE h,o4];exact⟨rfl,rfl,⟨rfl,rfl,rfl,rfl,rfl⟩,rfl,rfl,rfl,rfl,rfl⟩
def Mw(ha:A=Std){t u:Ty}{c2:Int}{e j:S}{g h:D}{d:Int}{f c:S}{a b:D}(k:cr t c2 e j g h)(hu:cr u d f c a b):
 A.lit [[.int c2,.str e,.str j,g,h],[.int d,.str f,.str c,a,b]]=bt ca [t,u]:=by
 subst ha;obtain⟨rfl,rfl,rfl,rfl,rfl⟩:=k;obtain⟨rfl,rfl,rfl,rfl,rfl⟩:=hu;rw[show bt ca [t,u]=D.list [ca t,ca u]from rfl,dn,dn];rfl
def jM(i:IF)(us:List U)(l:List S):Prop:=(∀e,e∈l↔∃u∈us,jE i u.1 u.2=some e)/\l.length<=us.length
def jM.nil(i:IF):jM i [] []:=⟨yS,yS⟩
def jM.app{vs a:List U}{k:List S}(h:jM i us l)(hk:jM i vs k)(b:∀u,u∈vs↔u∈a)(hl:vs.length<=a.length):jM i (us++a) (l++k):=by
 refine⟨λe=>?_,?_⟩
 ·rw[bE,h.1,hk.1];constructor
  ·rintro(⟨u,hu,he⟩|⟨u,hu,he⟩)
   ·exact⟨u,cy _ hu,he⟩
   ·exact⟨u,cP _ ((b u).1 hu),he⟩
  ·rintro⟨u,hu,he⟩;rcases bE.1 hu with hu|hu
   ·exact .inl ⟨u,hu,he⟩
   ·exact .inr ⟨u,(b u).2 hu,he⟩
 ·have:=h.2;have:=hk.2;simp only[bp];omega
def jM.step{u:U}(h:jM i us l):(∀e,jE i u.1 u.2=some e->jM i (us++[u]) (l++[e]))/\(jE i u.1 u.2=none->jM i (us++[u]) l):=by
 refine⟨λe he=>⟨λx=>?_,?_⟩,λc=>⟨λx=>?_,?_⟩⟩
 ·rw[bE,h.1,cU];constructor
  ·rintro(⟨v,a,b⟩|rfl)
   ·exact⟨v,cy _ a,b⟩
   ·exact⟨u,yS,he⟩
  ·rintro⟨v,a,b⟩;rcases bE.1 a with a|a
   ·exact .inl ⟨v,a,b⟩
   ·rw[cU]at a;subst a;rw[he]at b;cases b;exact .inr rfl
 ·have:=h.2;simp only[bp,dW];omega
 ·rw[h.1];constructor
  ·rintro⟨v,a,b⟩;exact⟨v,cy _ a,b⟩
  ·rintro⟨v,a,b⟩;rcases bE.1 a with a|a
   ·exact⟨v,a,b⟩
   ·rw[cU]at a;subst a;rw[c]at b;cases b
 ·have:=h.2;simp only[bp,dW];omega
end
end Go.VC
namespace Go.VC.cc
open Go Go.VC Go.Proofs
def UX:dH:={tt:=tt,n:=51,own:=[5]}
def WZ{i:IF}(hi:i.ok)(fW:∀x∈i.types,x.lower.size<=1048576/\x.upper.size<=1048576){m:List (S×TE)}(hm:TM m i){d dT:D}(hd:d=bt dy [i])(hT:dT=bt (fm fZ) m){n:S}{K:PV->List Ob->Prop}
 (h:∀l r,r=bt cT l->jM i (lH i n) l->K (.row 9 0) [.row 9 r true]):
 FT 332 [] [.agg [.lst 97 d,.dmp 136 dT,.undef],.str n] K:=by
 refine eo UX Tryz.func332 λA C L X=>?_;have s:A.nh dT (.str n)=(tj i n).isSome:=by rw[X.a,hT,lD,hm.get]
 have I:∀x,tj i n=some x->fE m n=some x:=λx V=>by rw[hm.get,V]
 cbv;constructor<;>intro h1
 rw[s]at h1;obtain⟨x,V⟩:=eQ.1 h1;have kx:=QQ X.a hT (I x V);have O:=kx.2.2.1;have R:=kx.2.2.2;have M:x∈i.types:=cE V;have ak:Ty.le 4294967295 x.lower/\x.lower.size<=1048576:=⟨(hi.t x M).lo,(fW x M).1⟩;have ag:Ty.le 4294967295 x.upper/\x.upper.size<=1048576:=⟨(hi.t x M).up,(fW x M).2⟩;have w:lH i n=[x.lower,x.upper].flatMap Ty.iO:=by rw[lH,V];simp
 clear h1 s I;obtain⟨B,p⟩:∃B,B=A.lit [[.int (A.asInt (A.eY dT (.str n) 2)),.str (A.bG (A.eY dT (.str n) 3)),.str (A.bG (A.eY dT (.str n) 4)),A.eY dT (.str n) 5,A.eY dT (.str n) 6],[.int (A.asInt (A.eY dT (.str n) 7)),.str (A.bG (A.eY dT (.str n) 8)),.str (A.bG (A.eY dT (.str n) 9)),A.eY dT (.str n) 10,A.eY dT (.str n) 11]]:=⟨_,rfl⟩;have H:B=bt ca [x.lower,x.upper]:=p.trans (Mw X.a O R)
 rotate_left
 rw[s]at h1;have V:tj i n=none:=yU h1;obtain⟨x,E⟩:∃x,x=TE.zero:=⟨_,rfl⟩;have O:cr x.lower 0 [] [] (.list []) (.list []):=by rw[E];exact⟨rfl,rfl,rfl,rfl,rfl⟩
 have R:cr x.upper 0 [] [] (.list []) (.list []):=by rw[E];exact⟨rfl,rfl,rfl,rfl,rfl⟩
 have ak:Ty.le 4294967295 x.lower/\x.lower.size<=1048576:=by rw[E];exact⟨oG.lo,yD⟩
 have ag:Ty.le 4294967295 x.upper/\x.upper.size<=1048576:=by rw[E];exact⟨oG.up,yD⟩
 have w:lH i n=[x.lower,x.upper].flatMap Ty.iO:=by rw[lH,V,E];simp
 clear h1 s I;obtain⟨B,p⟩:∃B,B=A.lit [[.int 0,.str [],.str [],.list [],.list []],[.int 0,.str [],.str [],.list [],.list []]]:=⟨_,rfl⟩;have H:B=bt ca [x.lower,x.upper]:=p.trans (Mw X.a O R)
 all_goals
  obtain⟨ts,W⟩:∃ts,ts=[x.lower,x.upper]:=⟨_,rfl⟩;have aE:ts.length=2:=by rw[W];rfl
  have N:∀t∈ts,Ty.le 4294967295 t/\t.size<=1048576:=by rw[W];intro t ht;simp at ht;rcases ht with rfl|rfl;exact ak;exact ag
  rw[<- W]at H w;obtain⟨v,Q,g⟩:=lenOf H;cbv
  refine X.ka (λ(y:Nat×D)=>⟨[(23,.int .i64 y.1),(22,.int .i64 (A.len B)),(21,.lst 29 B),(5,.row 9 1),(2,.box 0 0)],[.box [.lst 97 d,.dmp 136 dT,.undef],.row 9 y.2 true]⟩)
   (λy=>y.1<=v/\∃l,y.2=bt cT l/\jM i ((ts.take y.1).flatMap Ty.iO) l) (λy=>v-y.1) (0,.list []) ⟨bw _,[],rfl,jM.nil i⟩ ?_ ?_
  ·refine⟨[0,1],rfl,?_⟩
   (cbv;repeat' apply bk);all_goals try first|trivial|rfl|(rw[X.a];rfl)
   all_goals first|exact p.symm|exact congrArg A.len p.symm
  rintro⟨k,r⟩ ⟨hk,l,hr,hl⟩;simp only at hk hr hl;cbv;constructor<;>intro h1
  ·have h5:k<ts.length:=lY X.a g h1;have k1:=iS X.a H h5;have ax:=iX X.a H h5;have ar:=jX X.a h5;obtain⟨al,ai⟩:=N _ (br h5);cbv;repeat' (first|apply bk|exact zf|(intro J;cbv)|apply bB)
   any_goals exact ax
   refine X.call (Xe al (bM ai yD) k1 λlu rl T ao aj=>?_);have aF:=mP ts[k];have an:lu.length<=ts[k].iO.length:=fk (Ad ao) λu hu=>(aj u).1 hu
   have aD:((ts.take k).flatMap Ty.iO).length<=2097152:=by
    rw[uQ]
    have:∀q:List Ty,(∀t∈q,t.size<=1048576)->(q.map λt=>t.iO.length).sum<=q.length*1048576:=by
     intro q;induction q with
     |nil=>simp
     |cons t q ih=>intro hq;have a:=ih λt ht=>hq t (by simp[ht]);have b:=mP t;have c:=hq t yS;simp only[bF,bV,bI];omega
    have e:=this (ts.take k) λt ht=>(N t (tl ht)).2;have f:(ts.take k).length<=2:=by rw[cF];omega
    omega
   have aG:=hl.2;obtain⟨G,aa,o⟩:=lenOf T;clear h1;cbv
   refine X.ka (λ(y:Nat×D)=>⟨[(30,.int .i64 y.1),(29,.int .i64 (A.len rl)),(28,.lst 259 rl),(23,.int .i64 k),(22,.int .i64 (A.len B)),(21,.lst 29 B),(5,.row 9 1),(2,.box 0 0)],[.box [.lst 97 d,.dmp 136 dT,.undef],.row 9 y.2 true]⟩)
    (λy=>y.1<=G/\∃l2,y.2=bt cT (l++l2)/\jM i (lu.take y.1) l2) (λy=>G-y.1) (0,r) ⟨bw _,[],by rw[cz];exact hr,jM.nil i⟩ ?_ ?_
   ·refine⟨[0,1],rfl,?_⟩
    (cbv;repeat' apply bk);all_goals try first|trivial|rfl|(rw[X.a];rfl)
   rintro⟨j,r2⟩ ⟨hj,l2,z,F⟩;simp only at hj z F;cbv;constructor<;>intro h1
   ·have h6:j<lu.length:=lY X.a o h1;obtain⟨ap,aq⟩:=uAt X.a T h6;have ad:=iX X.a T h6;have am:=jX X.a h6;have af:=F.2;have aA:l2.length<=2097152:=by rw[cF]at af;omega
    have P:=F.step (u:=lu[j]);rw[<- cj h6]at P;have aw:∀e:S,A.gr (A.add (A.len r2) (A.len (A.lit [[.str e]]))) 4294967296:=by intro e;rw[X.a,z];simp only[SD,fP,bA];omega
    have ae:∀e:S,A.app r2 (A.lit [[.str e]])=bt cT (l++(l2++[e])):=by intro e;rw[X.a,z,<-bL];exact cD (k:=[e])
    clear h1;cbv;repeat' (first|apply bk|exact zf|(intro J;cbv)|apply bB)
    any_goals exact ad
    refine X.call (WX hi hm hd hT λe b hb he=>?_);have hb:b=(jE i (A.bG (A.cell rl (bj j) 0)) (A.bG (A.cell rl (bj j) 1))).isSome:=hb;have he:b=true->jE i (A.bG (A.cell rl (bj j) 0)) (A.bG (A.cell rl (bj j) 1))=some e:=he;rw[ap,aq]at hb he;cbv;repeat' (first|apply bk|exact zf|(intro J;cbv)|apply bB)
    any_goals exact am
    any_goals exact aw e
    ·have e2:b=true:=yA;refine⟨(j+1,_),⟨yP,l2++[e],ae e,P.1 e (he e2)⟩,yP,[0,1],rfl,?_⟩
     (cbv;repeat' apply bk);all_goals try first|trivial|rfl|(rw[X.a];rfl)
    ·have e2:b=false:=yA;rw[e2]at hb;refine⟨(j+1,r2),⟨yP,l2,z,P.2 (yU hb.symm)⟩,yP,[0,1],rfl,?_⟩
     (cbv;repeat' apply bk);all_goals try first|trivial|rfl|(rw[X.a];rfl)
   ·have h6:j=G:=gY X.a o h1;rw[h6,aa,bz]at F;have ah:jM i ((ts.take (k+1)).flatMap Ty.iO) (l++l2):=by rw[fu h5];exact hl.app F aj an
    cbv;repeat' (first|apply bk|exact zf|(intro J;cbv)|apply bB)
    any_goals exact ar
    refine⟨(k+1,r2),⟨yP,l++l2,z,ah⟩,yP,[0,1],rfl,?_⟩
    (cbv;repeat' apply bk);all_goals try first|trivial|rfl|(rw[X.a];rfl)
  ·have h5:k=v:=gY X.a g h1;rw[h5,Q,bz,<-w]at hl;cbv;exact h l r hr hl
end Go.VC.cc
namespace Go.VC
inductive xu (i:IF):S->S->Prop
 |one {a b:S} (h:Hz i a b):xu i a b
 |more {a b c:S} (h:xu i a b) (k:Hz i b c):xu i a c
def xu.trans{i:IF}{a b c:S}(h:xu i a b)(k:xu i b c):xu i a c:=by
 induction k with
 |one e=>exact .more h e
 |more _ k' d=>exact .more d k'
def Kh{i:IF}{m n e:S}(h:jE i m n=some e):(tj i e).isSome=true:=by
 unfold jE at h;split at h
 ·split at h
  ·rename_i hs;cases h;exact hs
  ·cases h
 ·split at h
  ·rename_i hs;cases h;exact hs
  ·cases h
 ·cases h
def I8{i:IF}{a b:S}(h:Hz i a b):(tj i b).isSome=true:=by obtain⟨u,_,hu⟩:=h;exact Kh hu
def xu.has{i:IF}{a b:S}(h:xu i a b):(tj i b).isSome=true:=by
 cases h with
 |one h=>exact I8 h
 |more _ k=>exact I8 k
def RH{i:IF}{n:S}(h:(tj i n).isSome=true):n∈i.types.map (·.name):=by obtain⟨x,a⟩:=eQ.1 h;have h1:=cE a;have J:=je a;simp at J;exact bH.2 ⟨x,h1,J⟩
def qJ{i:IF}{L:List S}(a:L.Nodup)(h:∀s∈L,(tj i s).isSome=true):L.length<=i.types.length:=by have:=fk a λs hs=>RH (h s hs);simpa using this
structure KS (m:List (S×Bool)) (p:S->Prop):Prop where
 nd:(m.map (·.1)).Nodup
 mem:∀s,s∈m.map (·.1)↔p s
 tr:∀x∈m,x.2=true
def qo(i:IF)(n:S):Nat:=(lH i n).length
def lJ(i:IF):Nat:=(i.types.map λx=>x.lower.size+x.upper.size).sum
def Jw(l:List TE)(n:S):(((l.find? λx=>x.name==n).getD TE.zero).lower.iO++((l.find? λx=>x.name==n).getD TE.zero).upper.iO).length=((l.find? λx=>x.name==n).map λx=>(x.lower.iO++x.upper.iO).length).getD 0:=by
 cases l.find? λx=>x.name==n with
 |some x=>rfl
 |none=>rw[xv,xB];rfl
def DW:∀(l:List TE)(f:TE->Nat)(L:List S),L.Nodup->(L.map λn=>((l.find? λx=>x.name==n).map f).getD 0).sum<=(l.map f).sum
 |[],f,L,_=>by
  have:∀L:List S,(L.map λn=>((([]:List TE).find? λx=>x.name==n).map f).getD 0).sum=0:=by
   intro L;induction L with
   |nil=>rfl
   |cons s L d=>rw[bF,bV,d];rfl
  rw[this];exact bw _
 |x::l,f,L,c=>by
  have d:=DW l f L c
  have key:(L.map λn=>(((x::l).find? λy=>y.name==n).map f).getD 0).sum<=f x+(L.map λn=>((l.find? λy=>y.name==n).map f).getD 0).sum:=by
   clear d;induction L with
   |nil=>simp
   |cons s L b=>
    rw[cq]at c;have b:=b c.2;simp only[bF,bV];by_cases hs:x.name=s
    ·have hb:(x.name==s)=true:=yU hs
     have a:∀n∈L,(((x::l).find? λy=>y.name==n).map f).getD 0=((l.find? λy=>y.name==n).map f).getD 0:=by
      intro n g;have:(x.name==n)=false:=by rw[beq_eq_false_iff_ne];intro e;exact c.1 (by rw[<- hs,e];exact g)
      rw[cI,this]
     rw[eF a,cI,hb];simp only[cv,eR];omega
    ·have hb:(x.name==s)=false:=yU hs;rw[cI,hb];simp only;omega
  simp only[bF,bV];omega
def DP(i:IF){L:List S}(d:L.Nodup):(L.map (qo i)).sum<=lJ i:=by
 have h1:(L.map (qo i))=L.map λn=>((i.types.find? λx=>x.name==n).map λx=>(x.lower.iO++x.upper.iO).length).getD 0:=by refine eF λn _=>?_;exact Jw i.types n
 rw[h1];refine bM (DW i.types _ L d) ?_;unfold lJ;generalize i.types=l;induction l with
 |nil=>simp
 |cons x l c=>have a:=mP x.lower;have b:=mP x.upper;simp only[bF,bV,bp]at c ⊢;omega
def DQ(i:IF)(n:S):qo i n<=lJ i:=by have:=DP i (L:=[n]) yS;simpa using this
structure tf (i:IF) (n:S) (L W:List S):Prop where
 nd:L.Nodup
 DC:∀s∈L,xu i n s
 Q6:∀s∈W,xu i n s
 st:∀e,Hz i n e->e∈L\/e∈W
 cl:∀s∈L,∀e,Hz i s e->e∈L\/e∈W
 len:W.length<=qo i n+(L.map (qo i)).sum
def jM.dir{i:IF}{n:S}{l:List S}(h:jM i (lH i n) l):∀e,e∈l↔Hz i n e:=h.1
def tf.start{i:IF}{n:S}{l:List S}(h:jM i (lH i n) l):tf i n [] l:=⟨yS,yS,λs hs=>.one ((h.dir s).1 hs),λe he=>.inr ((h.dir e).2 he),yS,by simpa[qo]using h.2⟩
def tf.old{i:IF}{n s:S}{L W:List S}(h:tf i n L (s::W))(hs:s∈L):tf i n L W:=by
 refine⟨h.nd,h.DC,λx a=>h.Q6 x (by simp[a]),λe he=>?_,λx a e he=>?_,by have:=h.len;simp at this;omega⟩
 ·rcases h.st e he with h1|h1
  ·exact .inl h1
  ·rcases bx.1 h1 with rfl|h1
   ·exact .inl hs
   ·exact .inr h1
 ·rcases h.cl x a e he with h1|h1
  ·exact .inl h1
  ·rcases bx.1 h1 with rfl|h1
   ·exact .inl hs
   ·exact .inr h1
def tf.new{i:IF}{n s:S}{L W l:List S}(h:tf i n L (s::W))(hs:s∉L)(hl:jM i (lH i s) l):tf i n (L++[s]) (W++l):=by
 have hr:=h.Q6 s yS;refine⟨?_,?_,?_,?_,?_,?_⟩
 ·rw[dk];exact⟨h.nd,yS,λa ha b hb=>by simp at hb;subst hb;exactλe=>hs (e▸ha)⟩
 ·intro x c;rcases bE.1 c with c|c
  ·exact h.DC x c
  ·simp at c;subst c;exact hr
 ·intro x c;rcases bE.1 c with c|c
  ·exact h.Q6 x (by simp[c])
  ·exact .more hr ((hl.dir x).1 c)
 ·intro e he;rcases h.st e he with h1|h1
  ·exact .inl (by simp[h1])
  ·rcases bx.1 h1 with rfl|h1
   ·exact .inl yS
   ·exact .inr (by simp[h1])
 ·intro x c e he;rcases bE.1 c with c|c
  ·rcases h.cl x c e he with h1|h1
   ·exact .inl (by simp[h1])
   ·rcases bx.1 h1 with rfl|h1
    ·exact .inl yS
    ·exact .inr (by simp[h1])
  ·simp at c;subst c;exact .inr (cP _ ((hl.dir e).2 he))
 ·have a:=h.len;have b:=hl.2;simp only[bI,bp,bS,dO,bF,ie,bV,oa]at*;unfold qo at*;omega
def tf.fin{i:IF}{n:S}{L:List S}(h:tf i n L []):∀s,s∈L↔xu i n s:=by
 intro s;refine⟨h.DC s,λhr=>?_⟩;induction hr with
 |one a=>rcases h.st _ a with h1|h1;exact h1;simp at h1
 |more _ a b=>rcases h.cl _ b _ a with h1|h1;exact h1;simp at h1
def tf.bY{i:IF}{n:S}{L W:List S}(h:tf i n L W):L.length<=i.types.length:=qJ h.nd λs hs=>(h.DC s hs).has
def tf.Mz{i:IF}{n:S}{L W:List S}(h:tf i n L W):W.length<=2*lJ i:=by have a:=h.len;have b:=DP i h.nd;have c:=DQ i n;omega
end Go.VC
namespace Go.VC.cc
open Go Go.VC Go.Proofs
def U1:dH:={tt:=tt,n:=32,own:=[16]}
def aaD{i:IF}(hi:i.ok)(fW:∀x∈i.types,x.lower.size<=1048576/\x.upper.size<=1048576)(ah:lJ i<=1048576){m:List (S×TE)}(hm:TM m i){d dT:D}(hd:d=bt dy [i])(hT:dT=bt (fm fZ) m){n:S}{K:PV->List Ob->Prop}
 (h:∀k r,r=bt cM k->KS k (xu i n)->K (.mp 0) [.map .str 4 r]):
 FT 314 [] [.agg [.lst 97 d,.dmp 136 dT,.undef],.str n] K:=by
 refine eo U1 Tryz.func314 λA C L X=>?_;have Y:=fg X.a;cbv;refine X.call (WZ hi fW hm hd hT λl0 r0 V Q=>?_);cbv;refine lP X (λy=>tf i n y.1.1 y.1.2/\y.2.2.1=bt cT y.1.2/\∃k,y.2.1=bt cM k/\KT k y.1.1) (λy=>y.1.2.length+(i.types.length-y.1.1.length)*(lJ i+1)) (([],l0),.list [],r0,true) ⟨.start Q,V,[],rfl,KT.nil⟩ [0,1,2] (λ(y:(List S×List S)×D×D×Bool)=>⟨[(6,.row 9 2),(5,.mp 1),(2,.box 0 0)],[.box [.lst 97 d,.dmp 136 dT,.undef],.map .str 4 y.2.1,.row 9 y.2.2.1 y.2.2.2]⟩) ?_;rintro⟨⟨t,W⟩,dm,g,wr⟩ ⟨w,p,k,o,hk⟩;simp only at w p o hk;have u:=w.Mz;have ai:=w.bY;obtain⟨af,c,e⟩:=lenOf p;cbv;constructor<;>intro h1
 ·have j:A.lt 0 (A.len g)=true:=h1
  match W,p,c,w,u with
  |[],p,c,w,u=>exfalso;obtain rfl:=X.a;rw[e,c]at j;cases j
  |s::W,p,c,w,u=>
  have aa:A.idx 0 (A.len g):=by rw[X.a,p];exact cY (i:=0) yS
  have T:A.bG (A.cell g 0 0)=s:=pT X.a p (i:=0) yS;have B:A.asBool (A.eY dm (.str (A.bG (A.cell g 0 0))) 0)=decide (s∈t):=by rw[T,X.a,o];exact uI hk _
  have N:A.lM dm (.str (A.bG (A.cell g 0 0))) [.bool true]=bt cM (lA k s):=by rw[T,X.a,o];exact pa
  have G:A.gr 1 (A.len g):=by rw[X.a,p,dp];exact⟨yD,yQ⟩
  have E:A.part g 1 (A.len g)=bt cT W:=by rw[X.a,p,dp];have:=o9 (f:=cT) (l:=s::W) (a:=1) (b:=(s::W).length);simpa using this
  simp only[bI]at u;clear h1 j;cbv;repeat' (first|apply bk|exact zf|(intro J;cbv)|apply bB)
  any_goals exact aa
  ·have e1:A.not (A.asBool (A.eY dm (.str (A.bG (A.cell g 0 0))) 0))=true:=yA;rw[Y,B]at e1;have hs:s∉t:=yU e1;refine X.call (WZ hi fW hm hd hT λl r hr hl=>?_);have I:jM i (lH i s) l:=T▸hl;have q:=w.new hs I;have F:=q.Mz;have H:=q.bY;have ag:=I.2;have R:=DQ i s;simp only[qo]at R;simp only[bp,dW]at F H;have aj:A.gr (A.add (A.len g) (A.len r)) 4294967296:=by rw[X.a,p,hr,dp,dp,fx];refine⟨yQ,yQ⟩
   have z:A.app g r=bt cT (s::(W++l)):=by rw[X.a,p,hr];exact cD
   have ac:A.gr 1 (A.len (A.app g r)):=by rw[z,X.a,dp];exact⟨yD,yQ⟩
   have v:A.part (A.app g r) 1 (A.len (A.app g r))=bt cT (W++l):=by rw[z,X.a,dp];have:=o9 (f:=cT) (l:=s::(W++l)) (a:=1) (b:=(s::(W++l)).length);rw[List.drop_one,List.tail_cons,ek yS]at this;exact this
   have O:(W++l).length+(i.types.length-(t++[s]).length)*(lJ i+1)<(s::W).length+(i.types.length-t.length)*(lJ i+1):=by have:i.types.length-t.length=(i.types.length-(t.length+1))+1:=yO;have e2:(t++[s]).length=t.length+1:=yS;rw[e2,this,dz,p4,bp,bI];omega
   have P:=hk.add s;refine p1 ?_;exact⟨((t++[s],W++l),_,_,false),⟨q,v,_,N,P⟩,O,[0,1,2],rfl,yc⟩
  any_goals exact G
  ·have e1:A.not (A.asBool (A.eY dm (.str (A.bG (A.cell g 0 0))) 0))=false:=yA;rw[Y,B]at e1;have hs:s∈t:=yU e1;exact⟨((t,W),_,_,false),⟨w.old hs,E,k,o,hk⟩,by simp only[bI];omega,[0,1,2],rfl,yc⟩
 ·have j:A.lt 0 (A.len g)=false:=h1;have U:W=[]:=by obtain rfl:=X.a;rw[e,kU]at j;have:=of_decide_eq_false j;exact cm (by simp only[bD]at this;omega)
  subst U;have M:=w.fin;cbv;exact h k dm o ⟨hk.nd,λs=>(hk.mem s).trans (M s),hk.tr⟩
end Go.VC.cc
namespace Go.VC
def AD(m:List (S×TE))(l:List TE):List (S×TE):=l.foldr (λx m=>iV x.name x m) m
def HN{m:List (S×TE)}(l:List TE)(h:(m.map (·.1)).Nodup):((AD m l).map (·.1)).Nodup:=by
 induction l with
 |nil=>exact h
 |cons x l a=>exact rD a
def KH{l:List TE}{n:S}:fE (AD [] l) n=l.find? λx=>x.name==n:=by
 induction l with
 |nil=>rfl
 |cons x l a=>
  show fE (iV x.name x (AD [] l)) n=_;rw[ll,cI];by_cases h:n=x.name
  ·rw[if_pos h];simp[h]
  ·rw[if_neg h];have:(x.name==n)=false:=by rw[beq_eq_false_iff_ne];exactλe=>h e.symm
   rw[this];exact a
def NT(l:List TE):(AD [] l).length<=l.length:=by
 induction l with
 |nil=>exact bX 0
 |cons x l a=>show (iV x.name x (AD [] l)).length<=_;have:=Pa (m:=AD [] l) (k:=x.name) (v:=x);simp only[bI];omega
def TM.of(i:IF):TM (AD [] i.types) i:=⟨HN _ yS,λn=>KH⟩
def r8(q:D):List D:=[q]
structure UM (mu:List (S×D)) (i:IF) (p:S->Prop):Prop where
 nd:(mu.map (·.1)).Nodup
 mem:∀s,s∈mu.map (·.1)↔p s
 get:∀s q,fE mu s=some q->∃k,q=bt cM k/\KS k (xu i s)
def UM.nil(i:IF):UM [] i (λ_=>False):=⟨yS,yS,λs q h=>by simp[fE]at h⟩
def UM.put{mu:List (S×D)}{i:IF}{p:S->Prop}(h:UM mu i p){s:S}{k:List (S×Bool)}(hk:KS k (xu i s)){p':S->Prop}(b:∀x,p' x↔x=s\/p x):UM (iV s (bt cM k) mu) i p':=by
 refine⟨rD h.nd,λx=>by rw[Em,b,h.mem],λx q a=>?_⟩;rw[ll]at a;split at a
 ·rename_i e;subst e;cases a;exact⟨k,rfl,hk⟩
 ·exact h.get x q a
end Go.VC
namespace Go.VC.cc
open Go Go.VC Go.Proofs
section
variable {d:D}{K:PV->List Ob->Prop}
def aaE(h:K (.cu 331 [.du [.lst 136 d] 0]) []):FT 313 [] [.lst 136 d] K:=by refine en (cf 4) Tryz.func313 λA C L X=>?_;cbv;exact h
def UY:dH:={tt:=tt,n:=19,live:=[331],n0:=4}
def aaz{p g:Code}{e n dT:D}{l:List TE}(q:d=bt fZ l)(hl:l.length<=4294967295){m:List (S×TE)}(hT:dT=bt (fm fZ) m)
 (U:∀(x:TE)(m:List (S×TE))(dT:D)(j:Int)(P:S)(c1:D)(c2:Int)(H O:S)(I N:D)(G:Int)(E F:S)(o k:D)(Q:PV->List Ob->Prop),x∈l->p8 x P c1 c2 H O I N G E F o k->dT=bt (fm fZ) m->
   (∀r,r=bt (fm fZ) (iV x.name x m)->Q (.bl true) [.loop 36 [15,16] p g [(3,.box 1 0)] .ready,.box [.lst 97 e,.mp 2,.mp 3],.map .str 136 r,.map .str 80 n])->
   YC Tryz.prog tt [.loop 36 [15,16] p g [(3,.box 1 0)] .ready,.box [.lst 97 e,.mp 2,.mp 3],.map .str 136 dT,.map .str 80 n] [.int .i64 j,tE P c1 c2 H O I N G E F o k] Q)
 (h:∀r,r=bt (fm fZ) (AD m l)->K (.tup []) [.loop 36 [15,16] p g [(3,.box 1 0)] .ready,.box [.lst 97 e,.mp 2,.mp 3],.map .str 136 r,.map .str 80 n]):
 FT 331 [.loop 36 [15,16] p g [(3,.box 1 0)] .ready,.box [.lst 97 e,.mp 2,.mp 3],.map .str 136 dT,.map .str 80 n] [.kF 0,.du [.lst 136 d] 0] K:=by
 refine el UY Tryz.func331 λA C L X=>?_;obtain⟨T,M,s⟩:=lenOf q;have c:A.not true=false:=yX;have b:A.len d=bj l.length:=gE X.a q;have f:A.inr .i64 (A.sub (A.len d) 1):=by rw[b,X.a,fw,pL];simp only[bD];omega
 have u:A.sub (A.len d) 1=bj l.length-1:=by rw[b,X.a];rfl
 cbv;refine .inl ⟨f,λ_=>?_⟩;cbv;refine lP X (λy=>y.1<=l.length/\y.2.1=bj y.1-1/\y.2.2=bt (fm fZ) (AD m (l.drop y.1))) (λy=>y.1) (l.length,_,dT) ⟨bX _,u,by simp only;rw[ch];exact hT⟩ [0,1,2,3] (λ(y:Nat×Int×D)=>⟨[(3,.int .i64 y.2.1),(1,.du [.lst 136 d] 0),(0,.kF 0)],[.loop 36 [15,16] p g [(3,.box 1 0)] .ready,.box [.lst 97 e,.mp 2,.mp 3],.map .str 136 y.2.2,.map .str 80 n]⟩) ?_;rintro⟨i,z,dm⟩ ⟨t,hz,a⟩;simp only at t hz a
 match i,t,hz,a with
 |0,t,hz,a=>
  have hc:A.le 0 z=false:=by rw[X.a,hz];rfl
  cbv;repeat' (first|apply bk|exact zf|(intro J;first|exact yB hc J|cbv)|apply bB)
  exact h dm a
 |j+1,t,hz,a=>
  have hz:z=bj j:=by rw[hz];simp only[bD];omega
  subst hz;have hc:A.le 0 (bj j)=true:=by rw[X.a,vW];exact decide_eq_true (eO _)
  have h5:j<l.length:=yO;have R:=mQ X.a q h5;have B:=iX X.a q h5;have w:A.inr .i64 (A.sub (bj j) 1):=by rw[X.a,fw,pL];simp only[bD];omega
  have v:A.sub (bj j) 1=bj j-1:=yX;cbv;repeat' (first|apply bk|exact zf|(intro J;first|exact yB hc J|cbv)|apply bB)
  any_goals exact B
  refine X.round (U l[j] _ dm _ _ _ _ _ _ _ _ _ _ _ _ _ _ (br h5) R a λr hr=>?_);cbv;repeat' (first|apply bk|exact zf|(intro J;first|exact yB c J|cbv)|apply bB)
  any_goals exact w
  refine⟨(j,_,r),⟨yP,v,?_⟩,yP,[0,1,2,3],rfl,?_⟩
  ·simp only;rw[hr,bJ h5];rfl
  exact yc
end
end Go.VC.cc
namespace Go.VC
section
variable {α:Type}{d:List Int}
def Bl{m:List (S×α)}{dft:S×α}(hb:∀j∈d,0<=j/\j<m.length)(ha:∀j:Nat,j<m.length->(j:Int)∈d)(s:S):s∈d.map (λj=>(m.getD j.toNat dft).1)↔s∈m.map (·.1):=by
 constructor
 ·intro h;obtain⟨j,a,rfl⟩:=bH.1 h;obtain⟨h0,h1⟩:=hb j a;have hl:j.toNat<m.length:=yO;refine bH.2 ⟨m[j.toNat],br hl,?_⟩;simp[cx,hl]
 ·intro h;obtain⟨x,b,rfl⟩:=bH.1 h;obtain⟨k,hk⟩:=ig b;have hl:k<m.length:=(dr.1 hk).1;refine bH.2 ⟨(k:Int),ha k hl,?_⟩;simp[cx,hk]
def Q5{m:List α}(gx:d.Nodup)(hb:∀j∈d,0<=j/\j<m.length){i:Nat}(l:i<m.length)(n:(i:Int)∉d):d.length<m.length:=by
 have h1:(d.map Int.toNat).Nodup:=by refine List.pairwise_map.2 (List.Pairwise.imp_of_mem ?_ gx);intro a b ha f g e;have:=hb a ha;have:=hb b f;exact g yO
 have J:(Int.toNat (i:Int)::d.map Int.toNat).Nodup:=by rw[cq];refine⟨λh=>?_,h1⟩;obtain⟨j,c,e⟩:=bH.1 h;have:=hb j c;exact n (by rw[show (i:Int)=j by omega];exact c)
 have h3:=fk (m:=dF m.length) J λx k=>by
  rw[k9];rcases bx.1 k with rfl|k
  ·simpa using l
  ·obtain⟨j,c,rfl⟩:=bH.1 k;have:=hb j c;omega
 simp at h3;omega
end
end Go.VC
namespace Go.VC.cc
open Go Go.VC Go.Proofs
def U5:dH:={tt:=tt,n:=36,n0:=4,DB:=true}
def aaM{i:IF}(hi:i.ok)(fW:∀x∈i.types,x.lower.size<=1048576/\x.upper.size<=1048576)(ab:lJ i<=1048576){M:S}{c1 c2 F I:D}{K:PV->List Ob->Prop}(hx:lQ i M c1 c2 F I)
 (h:∀m mu B dT R,TM m i->UM mu i (λs=>(tj i s).isSome=true)->B=bt dy [i]->dT=bt (fm fZ) m->R=bt (fm r8) mu->K (.agg [.lst 97 B,.dmp 136 dT,.dmp 80 R]) []):
 FT 301 [] [qN M c1 c2 F I] K:=by
 have W:i.types.length<=4294967295:=hi.nt;have v:∀A:pP,A=Std->A.lit [[.str M,c1,c2,F,I]]=bt dy [i]:=by rintro A rfl;obtain⟨rfl,rfl,rfl,rfl,rfl⟩:=hx;rfl
 refine eo Zi Tryz.func301 λA C L X=>?_;obtain⟨B,O⟩:∃B,B=A.lit [[.str M,c1,c2,F,I]]:=⟨_,rfl⟩;have ao:B=bt dy [i]:=O.trans (v A X.a);cbv;refine X.call (aaE ?_);cbv;refine X.range rfl ⟨Tryz.func331,by rfl,rfl⟩ rfl [(3,.box 4 0)] ?_ ?_
 ·cbv
 cbv;refine X.call (aaz (m:=[]) hx.2.1 W rfl ?_ ?_)
 ·intro x m dT j b0 b1 b2 b3 b4 b5 b6 b7 b8 b9 P N K' aq hk rN hK;refine YC.enter (G:=U5) fD mixed rfl rfl rfl rfl rfl ?_;intro A C L X;have dN:[D.str b0,b1,.int b2,.str b3,.str b4,b5,b6,.int b7,.str b8,.str b9,P,N]=fZ x:=by obtain⟨rfl,rfl,⟨rfl,rfl,rfl,rfl,rfl⟩,rfl,rfl,rfl,rfl,rfl⟩:=hk;rw[o4]
  have q:=hK (A.lM dT (.str b0) [D.str b0,b1,.int b2,.str b3,.str b4,b5,b6,.int b7,.str b8,.str b9,P,N]) (by rw[dN,X.a,rN,hk.1];exact lB);cbv;exact q
 intro dT rN;have o:=TM.of i;have u:=NT i.types;obtain⟨m,hm⟩:∃m,m=AD [] i.types:=⟨_,rfl⟩;rw[<- hm]at rN o u;clear hm;have V:∀s,s∈m.map (·.1)↔(tj i s).isSome=true:=λs=>by rw[ze,o.get]
 clear O;cbv
 refine X.Mq (λ(x:List Int×D×D)=>⟨[(24,.it 3),(3,.box 2 0),(2,.box 0 0)],[.box [.lst 97 (.list []),.nilm,.nilm],.map .str 80 x.2.2,.box [.lst 97 (A.lit [[.str M,c1,c2,F,I]]),.dmp 136 dT,.mp 1],.diter 136 dT x.2.1]⟩)
  (λx=>x.2.1=kA x.1/\x.1.Nodup/\(∀j∈x.1,0<=j/\j<m.length)/\∃mu,x.2.2=bt (fm r8) mu/\UM mu i (λs=>s∈x.1.map (λj=>(m.getD j.toNat ([],TE.zero)).1))) (λx=>m.length-x.1.length) ([],.list [],.list []) ⟨rfl,yS,yS,[],rfl,by simpa using UM.nil i⟩ ?_ ?_
 ·exact⟨[2],[],[1,3,4,6],rfl,yc⟩
 rintro⟨d,z,R⟩ ⟨hz,gx,hb,mu,w,Q⟩;simp only at hz gx hb w Q;cbv;refine⟨λh1=>?_,λj h1=>?_⟩
 ·have ha:=rh (m:=m) (f:=fm fZ) (l:=d) (by rw[<- rN,<-hz,<-X.a];exact h1);have U:=Bl (dft:=([],TE.zero)) hb ha;have y:UM mu i (λs=>(tj i s).isSome=true):=⟨Q.nd,λs=>by rw[Q.mem,U,V],Q.get⟩;have q:=h m mu (A.lit [[.str M,c1,c2,F,I]]) dT R o y (v A X.a) rN w;cbv;exact q
 ·obtain⟨u0,u1,u2⟩:0<=j/\j<m.length/\j∉d:=te (by rw[<- rN,<-hz,<-X.a];exact h1);have n:A.oe z j=kA (d++[j]):=by rw[X.a,hz,xt]
  have g:A.last (A.oe z j)=j:=by rw[n,X.a,uG]
  obtain⟨k,rfl⟩:∃k:Nat,j=bj k:=⟨j.toNat,yL⟩;have hk:k<m.length:=by simp only[bD]at u1;omega
  have t:A.bG (A.cell dT (A.last (A.oe z (bj k))) 0)=(m.getD k ([],TE.zero)).1:=by rw[g,cellAt X.a rN hk,X.a];simp[fm,n2,hk]
  have g1:A.idx 0 (A.len (A.oe z (bj k))):=by rw[n,X.a,o6,n5];simp
  have g2:A.idx (A.last (A.oe z (bj k))) (A.len dT):=by rw[g,X.a,rN];exact cY hk
  have dA:=Q5 gx hb hk u2;have T:∀r E,r=bt cM E->A.lM R (.str (A.bG (A.cell dT (A.last (A.oe z (bj k))) 0))) [r]=bt (fm r8) (iV (m.getD k ([],TE.zero)).1 (bt cM E) mu):=by intro r E hr;rw[t,X.a,w,hr];exact lB (f:=r8)
  refine p1 ?_;refine X.call (FC.g3 (c:=.undef) (aaD hi fW ab o (v A X.a) rN λE r hr p=>?_));have p:KS E (xu i (A.bG (A.cell dT (A.last (A.oe z (bj k))) 0))):=p;rw[t]at p;have y:=Q.put p (p':=λs=>s∈(d++[bj k]).map (λj=>(m.getD j.toNat ([],TE.zero)).1)) (λx=>by rw[bS,bE];simp only[bF,ie,cU,bD,fp];exact Or.comm);refine p1 ?_;refine⟨(d++[bj k],A.oe z (bj k),_),⟨n,?_,?_,_,T r E hr,y⟩,?_,[],[],[0,1,2,3],rfl,?_⟩
  ·rw[dk];exact⟨gx,yS,λa ha b hb=>by simp at hb;subst hb;exactλe=>u2 (show (k:Int)∈d from e▸ha)⟩
  ·intro j H;rcases bE.1 H with H|H
   ·exact hb j H
   ·simp only[cU]at H;subst H;exact⟨u0,u1⟩
  ·simp only[bp,dW];omega
  exact yc
end Go.VC.cc
namespace Go.VC
def Rg(l:List S):List D:=[bt cT l]
end Go.VC
namespace Go.VC.cc
open Go Go.VC Go.Proofs Go.Sort
end Go.VC.cc
namespace Go.VC
open Go.Sort
end Go.VC
namespace Go.VC.cc
open Go Go.VC Go.Proofs Go.Sort
def SlN(Pp:fQ)(n:Nat):Type:={ x:Value×List S // RD tt Pp (.slice 9) x.1 (bt cT x.2)/\x.2.length<=n }
instance (Pp:fQ) (n:Nat):Inhabited (SlN Pp n):=⟨⟨(.slice none 0 0,[]),.slnil _,bw _⟩⟩
end Go.VC.cc
namespace Go.VC
structure GM (i:IF) (n:S) (l:List S):Prop where
 mem:∀s,s∈l↔xu i n s/\xu i s n
 nd:l.Nodup
 X9:l.Pairwise λa b=>slt b a=false
def KJ{m:List (S×Bool)}{p:S->Prop}(h:KS m p)(k:S):Std.asBool (Std.eY (bt cM m) (.str k) 0)=true↔p k:=by have J:KT m (m.map (·.1)):=⟨h.nd,λs=>Iff.rfl,h.tr⟩;rw[uI J k,decide_eq_true_iff];exact h.mem k
theorem UM.at{mu:List (S×D)}{i:IF}(h:UM mu i (λs=>(tj i s).isSome=true)){b:D}(j:b=bt (fm r8) mu)(s:S):
 ∃k,KS k (xu i s)/\cg (Std.eY b (.str s) 0)=k.map cM/\∀n,Std.asBool (Std.eY (Std.eY b (.str s) 0) (.str n) 0)=true↔xu i s n:=by
 subst j;cases hs:(tj i s).isSome with
 |true=>have h1:=(h.mem s).2 hs;rw[ze]at h1;obtain⟨q,c⟩:=eQ.1 h1;obtain⟨k,rfl,hk⟩:=h.get s q c;rw[lE (f:=r8) c 0];exact⟨k,hk,rfl,λn=>KJ hk n⟩
 |false=>
  have h1:fE mu s=none:=by
   have:¬s∈mu.map (·.1):=λe=>by have:=(h.mem s).1 e;rw[hs]at this;cases this
   rw[ze]at this;simpa using this
  rw[uH h1]
  have a:∀x,¬xu i s x:=by
   intro x l;have d:∀e,¬Hz i s e:=by rintro e ⟨u,hu,_⟩;have m:tj i s=none:=yU hs;rw[lH,m,xv,xB]at hu;simp at hu
   induction l with
   |one h=>exact d _ h
   |more _ _ g=>exact g
  refine⟨[],⟨yS,λx=>?_,yS⟩,rfl,λn=>?_⟩
  ·simp only[ie,gH,false_iff];exact a x
  ·constructor
   ·intro e;exact absurd (show (false=true)from e) (by decide)
   ·intro e;exact absurd e (a n)
end Go.VC
namespace Go.VC.cc
open Go Go.VC Go.Proofs
section
variable {K:PV->List Ob->Prop}
def FC.g1{P:Program}{tt:TypeId->Option TI}{f:FuncId}{objs:List Ob}{a b c:PV}{rest:List PV}(h:FC P tt f objs (.agg [.undef,.undef,c]::rest) K):FC P tt f objs (.agg [a,b,c]::rest) K:=by
 intro E Pp w vals d e;refine h E Pp w vals d ?_;cases e with
 |cons v _ vs _ h1 J=>
  refine .cons _ _ _ _ ?_ J;cases h1 with
  |agg us _ hl=>
   cases hl with|cons _ _ _ _ ha hl=>cases hl with|cons _ _ _ _ hb hl=>cases hl with|cons _ _ _ _ hc hl=>
   cases hl;exact .agg _ _ (.cons _ _ _ _ (.undef _) (.cons _ _ _ _ (.undef _) (.cons _ _ _ _ hc .nil)))
def U0:dH:={tt:=tt,n:=29,own:=[5],eh:=[150]}
def aaC{i:IF}(ae:i.types.length<=4294967295){mu:List (S×D)}(hU:UM mu i (λs=>(tj i s).isSome=true)){B:D}(M:B=bt (fm r8) mu){n:S}
 (h:∀l r,r=bt cT l->GM i n l->K (.row 9 0) [.row 9 r true]):
 FT 315 [] [.agg [.undef,.undef,.dmp 80 B],.str n] K:=by
 refine eo U0 Tryz.func315 λA C L X=>?_;obtain⟨k,hk,c,_⟩:=hU.at M n;obtain⟨g,ab⟩:∃g,g=A.eY B (.str n) 0:=⟨_,rfl⟩;have c:cg g=k.map cM:=by rw[ab,X.a];exact c
 have T:k.length<=4294967295:=by have h1:=qJ (i:=i) hk.nd λs hs=>((hk.mem s).1 hs).has;rw[bA]at h1;exact bM h1 ae
 have W:∀d,A.n1 g (kA d)->∀j:Nat,j<k.length->(j:Int)∈d:=by intro d h1 j f;rw[X.a]at h1;have:=h1 j (by rw[c,bA];exact f);simp only[kA,bt,cg,bH]at this;obtain⟨x,hx,he⟩:=this;simp at he;subst he;exact hx
 have Q:∀d j,A.qp g (kA d) j->0<=j/\j<k.length/\j∉d:=by intro d j h1;rw[X.a]at h1;obtain⟨h1,J,h3⟩:=h1;rw[c,bA]at J;refine⟨h1,J,λf=>h3 ?_⟩;simp only[kA,bt,cg];exact bH.2 ⟨j,f,rfl⟩
 have H:A.len g=bj k.length:=by rw[X.a];show ((cg g).length:Int)=_;rw[c,bA];rfl
 have I:∀j (f:j<k.length),A.bG (A.cell g (bj j) 0)=k[j].1:=by intro j f;rw[X.a];show Std.bG ((((cg g).getD (bj j).toNat []).getD 0 .nil))=_;rw[c];simp[cx,f,cM,n2]
 have N:∀s,A.asBool (A.eY (A.eY B (.str s) 0) (.str n) 0)=true↔xu i s n:=by intro s;obtain⟨_,_,_,h3⟩:=hU.at M s;rw[X.a];exact h3 n
 clear hU M;cbv
 refine X.ka (λ(x:List Int×D×D)=>⟨[(11,.it 2),(5,.row 9 1),(2,.box 0 0),(1,.str n)],[.box [.undef,.undef,.dmp 80 B],.row 9 x.2.2 true,.diter 4 (A.eY B (.str n) 0) x.2.1]⟩)
  (λx=>x.2.1=kA x.1/\x.1.Nodup/\(∀j∈x.1,0<=j/\j<k.length)/\∃l,x.2.2=bt cT l/\l.Nodup/\∀s,s∈l↔s∈x.1.map (λj=>(k.getD j.toNat ([],true)).1)/\xu i s n) (λx=>k.length-x.1.length) ([],.list [],.list []) ⟨rfl,by simp,by simp,[],rfl,by simp,by simp⟩ ?_ ?_
 ·exact⟨[0,1,2],rfl,yc⟩
 rintro⟨d,z,r⟩ ⟨hz,gx,hb,l,hr,I4,o⟩;simp only at hz gx hb hr o;rw[<- ab];cbv;refine⟨λh1=>?_,λj h1=>?_⟩
 ·have ha:=W d (by rw[<- hz];exact h1);have P:=Bl (dft:=([],true)) hb ha;have y:l.length<4294967296:=by have h1:=fk (m:=k.map (·.1)) I4 λs hs=>(P s).1 ((o s).1 hs).1;rw[bA]at h1;exact gS (bM h1 T) yD
  cbv;refine X.call (Xo hr y λl2 r2 hp hs ad=>?_);cbv;refine h l2 r2 ad ⟨λs=>?_,hp.nodup_iff.2 I4,hs⟩;rw[hp.mem_iff,o,P,hk.mem]
 ·obtain⟨u0,u1,u2⟩:=Q d j (by rw[<- hz];exact h1);have p:A.oe z j=kA (d++[j]):=by rw[X.a,hz,xt]
  have u:A.last (A.oe z j)=j:=by rw[p,X.a,uG]
  obtain⟨q,rfl⟩:∃q:Nat,j=bj q:=⟨j.toNat,yL⟩;have O:q<k.length:=sf.1 u1;have F:A.bG (A.cell g (A.last (A.oe z (bj q))) 0)=k[q].1:=by rw[u];exact I q O
  have ai:(k.getD q ([],true)).1=k[q].1:=by simp[cx,O]
  have g1:A.idx 0 (A.len (A.oe z (bj q))):=by rw[p,X.a,o6,n5];simp
  have g2:A.idx (A.last (A.oe z (bj q))) (A.len g):=by rw[u,H,X.a];exact⟨eO _,yL⟩
  have dA:=Q5 gx hb O u2
  have w:k[q].1∉l:=by
   intro e;have:=((o _).1 e).1;obtain⟨j,f,e2⟩:=bH.1 this;obtain⟨b0,b1⟩:=hb j f;have t:j.toNat<k.length:=(Int.toNat_lt b0).2 b1;have e3:k[j.toNat].1=k[q].1:=by rw[<- e2];simp[cx,t]
   have E:=hX.1 hk.nd;have ac:j.toNat≠q:=λe=>u2 (by rw[show (bj q)=j by simp only[bD];omega];exact f);rcases Nat.lt_or_gt_of_ne ac with h|h
   ·have:=E j.toNat q (yU t) (yU O) h;simp at this;exact this e3
   ·have:=E q j.toNat (yU O) (yU t) h;simp at this;exact this e3.symm
  have V:A.asBool (A.eY (A.eY B (.str (A.bG (A.cell g (A.last (A.oe z (bj q))) 0))) 0) (.str n) 0)=true↔xu i k[q].1 n:=by rw[F];exact N _
  have y:l.length<=4294967294:=by
   have h1:=fk (l:=k[q].1::l) (m:=k.map (·.1)) (cq.2 ⟨w,I4⟩) λs hs=>by
    rcases bx.1 hs with rfl|hs
    ·exact bH.2 ⟨_,br O,rfl⟩
    ·obtain⟨j,f,e2⟩:=bH.1 ((o s).1 hs).1;obtain⟨b0,b1⟩:=hb j f;have t:j.toNat<k.length:=(Int.toNat_lt b0).2 b1;exact bH.2 ⟨k[j.toNat],br t,by rw[<- e2];simp[cx,t]⟩
   rw[bA,bI]at h1;exact Nat.le_of_succ_le_succ (bM h1 T)
  have aj:A.gr (A.add (A.len r) (A.len (A.lit [[.str (A.bG (A.cell g (A.last (A.oe z (bj q))) 0))]]))) 4294967296:=by rw[X.a,hr];simp only[SD,bA];omega
  have U:A.app r (A.lit [[.str (A.bG (A.cell g (A.last (A.oe z (bj q))) 0))]])=bt cT (l++[k[q].1]):=by rw[F,X.a,hr];exact cD (k:=[k[q].1])
  have G:(d++[bj q]).Nodup:=by rw[dk];exact⟨gx,yS,λa ha b hb=>by simp at hb;subst hb;exactλe=>u2 (show (q:Int)∈d from e▸ha)⟩
  have aa:∀j∈d++[bj q],0<=j/\j<k.length:=by
   intro j f;rcases bE.1 f with f|f
   ·exact hb j f
   ·simp only[cU]at f;subst f;exact⟨u0,u1⟩
  have v:∀s,s∈(d++[bj q]).map (λj=>(k.getD j.toNat ([],true)).1)↔s∈d.map (λj=>(k.getD j.toNat ([],true)).1)\/s=k[q].1:=by intro s;rw[bS,bE];simp only[bF,ie,cU,bD,fp,ai]
  have R:k.length-(d++[bj q]).length<k.length-d.length:=by simp only[bp,dW];omega
  cbv;repeat' (first|apply bk|exact zf|(intro J;cbv)|apply bB)
  any_goals first|exact g1|exact g2|exact aj
  ·have e1:A.asBool (A.eY (A.eY B (.str (A.bG (A.cell g (A.last (A.oe z (bj q))) 0))) 0) (.str n) 0)=true:=yA;refine⟨(d++[bj q],A.oe z (bj q),_),⟨p,G,aa,_,U,?_,λs=>?_⟩,R,[0,1,2],rfl,?_⟩
   ·rw[dk];exact⟨I4,yS,λa ha b hb=>by simp at hb;subst hb;exactλe=>w (e▸ha)⟩
   ·rw[bE,cU,o,v];constructor
    ·rintro(⟨a,b⟩|rfl)
     ·exact⟨.inl a,b⟩
     ·exact⟨.inr rfl,V.1 e1⟩
    ·rintro⟨a|a,b⟩
     ·exact .inl ⟨a,b⟩
     ·exact .inr a
   exact yc
  ·have e1:A.asBool (A.eY (A.eY B (.str (A.bG (A.cell g (A.last (A.oe z (bj q))) 0))) 0) (.str n) 0)=false:=yA;refine⟨(d++[bj q],A.oe z (bj q),r),⟨p,G,aa,l,hr,I4,λs=>?_⟩,R,[0,1,2],rfl,?_⟩
   ·rw[o,v];constructor
    ·rintro⟨a,b⟩;exact⟨.inl a,b⟩
    ·rintro⟨a|rfl,b⟩
     ·exact⟨a,b⟩
     ·rw[V.2 b]at e1;cases e1
   exact yc
end
end Go.VC.cc
namespace Go.VC
def GM.uniq{i:IF}{n:S}{l d:List S}(h:GM i n l)(c:GM i n d):l=d:=by
 have e:l.Perm d:=by rw[oB h.nd c.nd];intro s;rw[h.mem,c.mem]
 refine AI (le:=λa b=>slt b a=false) ?_ h.X9 c.X9 e;intro a b _ _ h1 J;exact nP J h1
open Classical in
noncomputable def Om(i:IF)(n:S):List S:=if h:∃l,GM i n l then h.choose else []
theorem GM.Om{i:IF}{n:S}{l:List S}(h:GM i n l):l=Om i n:=by have a:∃l,GM i n l:=⟨l,h⟩;unfold VC.Om;rw[dif_pos a];exact h.uniq a.choose_spec
end Go.VC
namespace Go.VC.cc
open Go Go.VC Go.Proofs
end Go.VC.cc
namespace Go.VC
mutual
def sZ(i:IF)(g:List S):Ty->Bool
 | .mk k m n ar fl=>if k != 10 then true else if Mm i g (.mk k m n ar fl)then false else zv i g ar
def zv(i:IF)(g:List S):List Ty->Bool
 |[]=>true
 |t::l=>sZ i g t&&zv i g l
end
def zu(i:IF)(g:List S):∀l,zv i g l= !(l.any λt=> !sZ i g t)
 |[]=>rfl
 |t::l=>by rw[zv,zu i g l,Ge];simp
def xZ(ar:List Ty)(ps:List Pm):Bool:=decide (ar.length=ps.length)&&(ar.zip ps).all λq=>q.1.k==9&&q.1.n==q.2.name
def A6(i:IF)(g:List S)(ps:List Pm)(u:Ty):Bool:= !Mm i g u||xZ u.ar ps
def CE(i:IF)(g:List S)(ps:List Pm)(t:Ty):Bool:=t.all.all (A6 i g ps)
def O8(i:IF)(g:List S)(ps:List Pm)(t:Ty):CE i g ps t=(A6 i g ps t&& !(t.eA.any λu=> !CE i g ps u)):=by
 unfold CE;rw[all_eq,vX]
 congr 1
 rw[List.all_flatMap,List.any_eq_not_all_not,rX];simp only[rX]
end Go.VC
namespace Go.VC.cc
open Go Go.VC Go.Proofs
section
variable {K:PV->List Ob->Prop}{i:IF}{m:List (S×TE)}{d dT dg:D}{g:List S}
def aax{t:Ty}{p:Pm}{a:Int}{c1 c2:S}{j n:D}{e:S}{b1 b2:Int}{o l:S}{f k:D}(v:cr t a c1 c2 j n)(r:J0 p e b1 b2 o l f k)(h:∀b,b=(t.k==9&&t.n==p.name)->K (.bool b) []):
 FT 336 [] [dQ a c1 c2 j n,L2 e b1 b2 o l f k] K:=by
 obtain⟨w,x,s,q,u⟩:=v;rw[<- w,<-s,<-r.1]at h;refine en (cf 15) Tryz.func336 λA C L X=>?_;have Z:=oY X.a;have c:=OT X.a;refine p2 (λJ=>?_) (λJ=>?_)
 ·have e1:A.eq a 9=true:=yA;rw[Z]at e1;refine h _ ?_;rw[e1];exact c c2 e
 ·have e1:A.eq a 9=false:=yA;rw[Z]at e1;refine h _ ?_;rw[e1];rfl
def aay{ar:List Ty}{ps:List Pm}{l n:D}(ha:l=bt ca ar)(o:n=bt dB ps)(x:ar.length<=4294967295)(h:∀b,b=xZ ar ps->K (.bool b) []):
 FT 335 [] [.lst 29 l,.lst 73 n,.cu 336 []] K:=by
 refine en (cf 32) Tryz.func335 λA C L X=>?_;obtain⟨f,j,a⟩:=lenOf ha;obtain⟨u,s,k⟩:=lenOf o;have l1:A.len l=bj ar.length:=gE X.a ha;have l2:A.len n=bj ps.length:=gE X.a o;have Y:=fg X.a;have Z:=oY X.a;refine p2 (λJ=>?_) (λJ=>?_)
 ·have J:A.not (A.eq (A.len l) (A.len n))=true:=J;rw[Y,Z,l1,l2]at J;refine h _ ?_;have:¬ar.length=ps.length:=λe=>by rw[e]at J;simp at J
  unfold xZ;rw[decide_eq_false this];rfl
 have c:ar.length=ps.length:=by have J:A.not (A.eq (A.len l) (A.len n))=false:=J;rw[Y,Z,l1,l2]at J;have J:(bj ar.length==bj ps.length)=true:=yU J;exact AJ (eq_of_beq J)
 clear J;cbv;refine lu X (λi=>i<=f/\((ar.zip ps).take i).all (λq=>q.1.k==9&&q.1.n==q.2.name)=true) (λi=>f-i) 0 ⟨bw _,rfl⟩ (λ(i:Nat)=>[(17,.int .i64 i)]) ?_;rintro i ⟨z,p⟩;cbv;constructor<;>intro h1
 ·have h5:i<ar.length:=lY X.a a h1;have h6:i<ps.length:=c▸h5;have h7:i<(ar.zip ps).length:=by rw[List.length_zip,c,Nat.min_self];exact h6
  have v:=iS X.a ha h5;have w:=im X.a o h6;have y:=iX X.a ha h5;have t:=iX X.a o h6;have r:=jX X.a h5;have hz:(ar.zip ps)[i]=(ar[i],ps[i]):=List.getElem_zip;refine p1 ?_;refine X.call (aax v w λb hb=>?_);cbv;repeat' (first|apply bk|exact zf|(intro J;cbv)|apply bB)
  any_goals exact r
  ·have J:A.not b=true:=yA;rw[Y,hb]at J;refine h _ ?_;have:((ar.zip ps).all λq=>q.1.k==9&&q.1.n==q.2.name)=false:=by rw[xy];refine⟨_,br h7,?_⟩;rw[hz];intro e;have e:(ar[i].k==9&&ar[i].n==ps[i].name)=true:=e;rw[e]at J;cases J
   unfold xZ;rw[this,oE]
  ·have J:A.not b=false:=yA;rw[Y,hb]at J;refine⟨i+1,⟨yO,?_⟩,yO,?_⟩
   ·rw[cj h7,nI,p,hz,vX,List.all_nil,Bool.and_true,iA];simpa using J
   exact yc
 ·have h5:i=f:=gY X.a a h1;cbv;refine h true ?_;rw[ek (by rw[List.length_zip,c,Nat.min_self,<-c,h5,j];exact bX _)]at p;unfold xZ;rw[p,decide_eq_true c];rfl
def W1(M:i.ok)(N:TM m i)(F:d=bt dy [i])(hT:dT=bt (fm fZ) m)(G:dg=bt cT g)(x:g.length<=4294967295):
 ∀(t:Ty),Ty.le 4294967295 t->∀{a:Int}{c1 c2:S}{r o:D}{K:PV->List Ob->Prop},cr t a c1 c2 r o->(∀b,b=sZ i g t->K (.bool b) [])->
 FT 316 [] [.agg [.lst 97 d,.dmp 136 dT,.undef],dQ a c1 c2 r o,.lst 9 dg] K:=by
 refine Ty.fV λt O=>?_;intro k a c1 c2 r o K z h;have n:=z;obtain⟨H,R,P,y,I⟩:=z;have j:t.ar.length<=4294967295:=by cases k;assumption
 have f:sZ i g t=if a != 10 then true else if Mm i g t then false else zv i g t.ar:=by rw[H];cases t;rfl
 refine en (cf 19) Tryz.func316 λA C L X=>?_;have Y:=fg X.a;have Z:=oY X.a;cbv;repeat' (first|apply bk|exact zf|(intro J;cbv)|apply bB|(refine X.call (WY M N F hT G x n λb hb=>?_);cbv))
 ·have J:A.not (A.eq a 10)=true:=J;rw[Y,Z]at J;refine h _ ?_;rw[f,if_pos (show (a != 10)=true from J)]
 ·have h3:A.not (A.eq a 10)=false:=yA;have J:b=true:=J;rw[Y,Z]at h3;refine h _ ?_;rw[f,if_neg (by rw[show (a != 10)= !(a==10)from rfl,h3];decide),if_pos (by rw[<- hb,J])]
 ·have h3:A.not (A.eq a 10)=false:=yA;have J:b=false:=J;rw[Y,Z]at h3;refine X.call (nF .k (.inr (.inl rfl)) (p:=λu=> !sZ i g u) y j (λu hu v T e l=>?_) λB w=>?_)
  ·obtain⟨Q,b1,b2,B,E,rfl,e⟩:=e;have c:u∈t.eA:=by simp[Ty.eA,hu]
   refine en (cf 10) Tryz.func334 λA C L X=>?_;cbv;refine X.call (O u c (iW k u c) e λE s=>?_);have q:=l (A.not E) (by rw[X.a,s];rfl);cbv;exact q
  have q:=h (A.not B) (by rw[Y,w,f,if_neg (by rw[show (a != 10)= !(a==10)from rfl,h3];decide),if_neg (by rw[<- hb,J];decide),zu]);cbv;exact q
def W0(T:i.ok)(V:TM m i)(O:d=bt dy [i])(hT:dT=bt (fm fZ) m)(Q:dg=bt cT g)(E:g.length<=4294967295){x:TE}{e0:S}{e1:D}{e2:Int}{e3 e4:S}{e5 e6:D}{e7:Int}{e8 e9:S}{kj sy:D}(U:p8 x e0 e1 e2 e3 e4 e5 e6 e7 e8 e9 kj sy):
 ∀(t:Ty),Ty.le 4294967295 t->t.size<=4294967295->∀{G:Int}{c1 c2:S}{z y:D}{K:PV->List Ob->Prop},cr t G c1 c2 z y->(∀b,b=CE i g x.params t->K (.bool b) [])->
 FT 317 [] [.agg [.lst 97 d,.dmp 136 dT,.undef],dQ G c1 c2 z y,tE e0 e1 e2 e3 e4 e5 e6 e7 e8 e9 kj sy,.lst 9 dg] K:=by
 refine Ty.fV λt W=>?_;intro e hs G c1 c2 z y K I h;obtain⟨j,c⟩:=oJ hs;have l:=I;obtain⟨t0,t1,t2,F,R⟩:=I;have k:t.ar.length<=4294967295:=by cases e;assumption
 rw[O8]at h;refine en (cf 26) Tryz.func317 λA C L X=>?_;have Y:=fg X.a;have M:A6 i g x.params t=true->∀{P:D}(st:List Ob->Prop),P=bt ca t.eA->True:=λ_ _ _ _=>trivial;have a:∀u∈t.eA,∀v (H:PV->List Ob->Prop),XF u v->(∀b,b= !CE i g x.params u->H (.bool b) [])->FT 337 [] [v,.du [.lst 97 d,.dmp 136 dT,.undef] 0,.du [.str e0,.lst 73 e1,.int .i64 e2,.str e3,.str e4,.lst 29 e5,.lst 57 e6,.int .i64 e7,.str e8,.str e9,.lst 29 kj,.lst 57 sy] 0,.du [.lst 9 dg] 0] H:=by rintro u hu v H ⟨b0,b1,b2,o,N,rfl,w⟩ s;refine en (cf 12) Tryz.func337 λA C L X=>?_;cbv;refine X.call (W u hu (iW e u hu) (j u hu) w λN B=>?_);have q:=s (A.not N) (by rw[X.a,B];rfl);cbv;exact q
 cbv;repeat' (first|apply bk|exact zf|(intro J;cbv)|apply bB|(refine X.call (WY T V O hT Q E l λb hb=>?_);cbv)|(refine X.call (aay F U.2.1 k λb2 n=>?_);cbv)|(refine X.call (N7 (.inr rfl) e c l λr hr=>?_);cbv))
 ·have J:A.not b2=true:=J;have h3:b=true:=yA;rw[Y,n]at J;refine h _ ?_;rw[A6,<-hb,h3,show xZ t.ar x.params=false by simpa using J];rfl
 ·have h3:b=true:=yA;rw[Y,n]at J;refine X.call (nF .l (.inr (.inl rfl)) (p:=λu=> !CE i g x.params u) hr c a λo f=>?_);have q:=h (A.not o) (by rw[Y,f,A6,show xZ t.ar x.params=true by simpa using J,xz,iA]);cbv;exact q
 ·have h3:b=false:=yA;refine X.call (nF .l (.inr (.inl rfl)) (p:=λu=> !CE i g x.params u) hr c a λo f=>?_);have q:=h (A.not o) (by rw[Y,f,A6,<-hb,h3,tn,Bool.true_or,iA]);cbv;exact q
end
end Go.VC.cc
namespace Go.VC
noncomputable def mM(p:Pm):Bool:=decide (p.var<0)||decide (2<p.var)|| !same p.bound Ty.zero
def sE(p:Pm):Bool:=p.var != 0
def wV(k:Nat):S:=35::Go.Lib.decDigits k
def mV(w:Pm->Bool):Nat->List Pm->Int
 |_,[]=>0
 |k,p::l=>if p.name≠wV k then 4 else if w p then 1 else mV w (k+1) l
def jW(w:Pm->Bool)(l:List Pm):Int:=if 8<l.length then 7 else mV w 0 l
noncomputable def vc(i:IF)(x:TE):Bool:=
 if(Om i x.name).all (λs=>((tj i s).getD TE.zero).params.length==x.params.length)=false then false else
 sZ i (Om i x.name) x.lower&&sZ i (Om i x.name) x.upper&&CE i (Om i x.name) x.params x.lower&&CE i (Om i x.name) x.params x.upper
structure Ty.fit (t:Ty):Prop where
 le:Ty.le 4294967295 t
 sz:t.size<=1048576
 me:∀u∈t.all,u.me
structure TE.fit (x:TE):Prop where
 n:x.name.length<=1048576
 np:x.params.length<=1048576
 p:∀p∈x.params,p.bound.fit
 lo:x.lower.fit
 up:x.upper.fit
structure VE.fit (x:VE):Prop where
 n:x.name.length<=1048576
 np:x.params.length<=1048576
 p:∀p∈x.params,p.bound.fit
 ty:x.ty.fit
structure AE.fit (x:AE):Prop where
 n:x.name.length<=1048576
 g:x.target.length<=1048576
structure DE.fit (x:DE):Prop where
 n:x.name.length<=1048576
structure IF.fit (i:IF):Prop where
 ok:i.ok
 path:i.path.length<=1048576
 rf:lJ i<=1048576
 nt:i.types.length<=1048576
 nv:i.values.length<=1048576
 na:i.aliases.length<=1048576
 nd:i.deprecated.length<=1048576
 t:∀x∈i.types,x.fit
 v:∀x∈i.values,x.fit
 a:∀x∈i.aliases,x.fit
 d:∀x∈i.deprecated,x.fit
def IF.fit.fW{i:IF}(h:i.fit):∀x∈i.types,x.lower.size<=1048576/\x.upper.size<=1048576:=λx a=>⟨(h.t x a).lo.sz,(h.t x a).up.sz⟩
end Go.VC
namespace Go.VC.cc
open Go Go.VC Go.Proofs
section
variable {K:PV->List Ob->Prop}{f z o:S}{b1 b2:Int}{c m:D}
abbrev qY(de:D)(b:S)(c1 c2 d a:D):PV:=.agg [.lst 97 de,.str b,.lst 136 c1,.lst 91 c2,.lst 210 d,.lst 213 a]
def Yx{p:Pm}(hf:Ty.le 4294967295 p.bound)(a:J0 p f b1 b2 z o c m)(h:∀b,b=mM p->K (.bool b) []):
 FT 297 [] [L2 f b1 b2 z o c m] K:=by
 obtain⟨p0,p1,p2⟩:=a;unfold mM at h;rw[<- p1]at h;refine en (cf 18) Tryz.func297 λA C L X=>?_;have Y:=fg X.a;have dA:=IV X.a;cbv;repeat' (first|apply bk|exact zf|(intro J;cbv)|apply bB|(refine X.call (X2 _ hf p2 (u:=Ty.zero) ⟨rfl,rfl,rfl,rfl,rfl⟩ λb hb=>?_);cbv))
 ·have e1:A.lt b1 0=false:=yA;have e2:A.lt 2 b1=false:=yA;rw[dA]at e1 e2;refine h _ ?_;rw[e1,e2,<-hb];exact Y b
 ·have e1:A.lt b1 0=false:=yA;have e2:A.lt 2 b1=true:=yA;rw[dA]at e1 e2;refine h _ ?_;rw[e1,e2];rfl
 ·have e1:A.lt b1 0=true:=yA;rw[dA]at e1;refine h _ ?_;rw[e1];rfl
def Yw{p:Pm}(hf:Ty.le 4294967295 p.bound)(a:J0 p f b1 b2 z o c m)(h:∀b,b=sE p->K (.bool b) []):
 FT 303 [] [L2 f b1 b2 z o c m] K:=by
 refine en (cf 6) Tryz.func303 λA C L X=>?_;have q:=h (A.not (A.eq b1 0)) (by rw[X.a,a.2.1];rfl);cbv;exact q
def UG:(∀{l:List Pm}{d:D}(hf:∀ p∈l,Ty.le 4294967295 p.bound){de:D}{u:S}{c1 c2 s t:D}{K:PV->List Ob->Prop}(j:d=bt dB l)(h:∀ r:Int,r=jW mM l->K (.int .i64 r) []),FT 296 [] [qY de u c1 c2 s t,.lst 73 d,.cu 297 []] K)/\
 (∀{l:List Pm}{d:D}(hf:∀ p∈l,Ty.le 4294967295 p.bound){de:D}{u:S}{c1 c2 s t:D}{K:PV->List Ob->Prop}(j:d=bt dB l)(h:∀ r:Int,r=jW sE l->K (.int .i64 r) []),FT 296 [] [qY de u c1 c2 s t,.lst 73 d,.cu 303 []] K):=by
 refine⟨?_,?_⟩;have F:=trivial
 rotate_left
 have I:=trivial
 rotate_left
 all_goals (
  intro l d hf de u c1 c2 s t K j h;refine en Zk Tryz.func296 λA C L X=>?_;have Y:=fg X.a;have w:=OT X.a;have l1:A.len d=bj l.length:=gE X.a j;obtain⟨g,q,a⟩:=lenOf j;cbv;repeat' (first|apply bk|exact zf|(intro J;cbv)|apply bB)
  ·have J:A.lt 8 (A.len d)=true:=J;rw[l1,X.a,kU]at J;refine h _ ?_;have:8<l.length:=by have:=of_decide_eq_true J;simp only[bD]at this;omega
   rw[jW,if_pos this]
  have x:¬8<l.length:=by have J:A.lt 8 (A.len d)=false:=J;rw[l1,X.a,kU]at J;have:=of_decide_eq_false J;simp only[bD]at this;omega
  rw[jW,if_neg x]at h;clear J;cbv
  first
   |(have G:=F
     refine X.loop (λ(i:Nat)=>⟨[(14,.int .i64 i),(13,.int .i64 (A.len d)),(12,.lst 73 d),(2,.cu 297 [])],[]⟩) (λi=>i<=g/\mV mM 0 l=mV mM i (l.drop i)) (λi=>g-i) 0 ⟨bw _,rfl⟩ ?_ ?_)
   |(refine X.loop (λ(i:Nat)=>⟨[(14,.int .i64 i),(13,.int .i64 (A.len d)),(12,.lst 73 d),(2,.cu 303 [])],[]⟩) (λi=>i<=g/\mV sE 0 l=mV sE i (l.drop i)) (λi=>g-i) 0 ⟨bw _,rfl⟩ ?_ ?_)
  ·exact yc
  rintro i ⟨M,n⟩;cbv;constructor<;>intro h1
  ·have h5:i<l.length:=lY X.a a h1;have v:=im X.a j h5;have H:=v.1;have B:=iX X.a j h5;have y:=jX X.a h5;have k:∀r,A.kM [35] r=35::r:=by rw[X.a];exactλ_=>rfl
   rw[bJ h5,mV]at n;cbv;repeat' (first|apply bk|exact zf|(intro J;cbv)|apply bB)
   any_goals exact B
   refine X.call (F73 (i:=i) yO λr hr=>?_)
   have E:A.inr .i64 (A.add (A.fe [35]) (A.fe r)):=by
    have h8:r.length=1:=by rw[hr,Go.Lib.decDigits,dif_pos yO];rfl
    rw[X.a,fw,fx,gR,gR,h8];decide
   have e1:A.not (A.seq (A.bG (A.cell d (bj i) 0)) (A.kM [35] r))= !(l[i].name==wV i):=by rw[Y,w,H,k,hr];rfl
   cbv
   first
    |(have G:=F
      repeat' (first|apply bk|exact zf|(intro J;cbv)|apply bB|(refine X.call (Yx (hf _ (br h5)) v λb hb=>?_);cbv)))
    |(repeat' (first|apply bk|exact zf|(intro J;cbv)|apply bB|(refine X.call (Yw (hf _ (br h5)) v λb hb=>?_);cbv)))
   any_goals first|exact y|exact E
   ·have J:A.not (A.seq (A.bG (A.cell d (bj i) 0)) (A.kM [35] r))=true:=yA;rw[e1]at J;refine h _ ?_;rw[n,if_pos (by intro e;rw[e]at J;simp at J)]
   ·have J:A.not (A.seq (A.bG (A.cell d (bj i) 0)) (A.kM [35] r))=false:=yA;have h3:b=true:=yA;rw[e1]at J;refine h _ ?_;rw[n,if_neg (yU J),if_pos (by rw[<- hb,h3])]
   ·have J:A.not (A.seq (A.bG (A.cell d (bj i) 0)) (A.kM [35] r))=false:=yA;have h3:b=false:=yA;rw[e1]at J;refine⟨i+1,⟨yO,?_⟩,yO,?_⟩
    ·rw[n,if_neg (yU J),if_neg (by rw[<- hb,h3];decide)]
    exact yc
  ·have h5:i=g:=gY X.a a h1;cbv;refine h 0 ?_;rw[n,h5,q,ch];rfl)
def U6:dH:={tt:=tt,n:=19,own:=[3]}
def W5{l:List Pm}{d:D}(g:d=bt dB l)(hl:l.length<=1048576)(h:∀r,r=bt cT (l.map Pm.name)->K (.row 9 0) [.row 9 r true]):
 FT 298 [] [.lst 73 d] K:=by
 refine eo U6 Tryz.func298 λA C L X=>?_;obtain⟨b,e,a⟩:=lenOf g;cbv;refine lP X (λy=>y.1<=b/\y.2=bt cT ((l.take y.1).map Pm.name)) (λy=>b-y.1) (0,.list []) ⟨bw _,rfl⟩ [0] (λ(y:Nat×D)=>⟨[(8,.int .i64 y.1),(7,.int .i64 (A.len d)),(6,.lst 73 d),(3,.row 9 0)],[.row 9 y.2 true]⟩) ?_;rintro⟨i,r⟩ ⟨u,hr⟩;simp only at u hr;cbv;constructor<;>intro h1
 ·have h5:i<l.length:=lY X.a a h1;have j:=im X.a g h5;have p:=j.1;have s:=iX X.a g h5;have n:=jX X.a h5;have t:A.gr (A.add (A.len r) (A.len (A.lit [[.str (A.bG (A.cell d (bj i) 0))]]))) 4294967296:=by rw[X.a,hr];simp only[SD,bA];omega
  have q:A.app r (A.lit [[.str (A.bG (A.cell d (bj i) 0))]])=bt cT ((l.take (i+1)).map Pm.name):=by rw[p,X.a,hr,map_take h5];exact cD (k:=[l[i].name])
  refine p1 ?_;exact⟨(i+1,_),⟨yP,q⟩,yP,[0],rfl,yc⟩
 have h5:i=b:=gY X.a a h1;subst h5;rw[e,bz]at hr;cbv;exact h r hr
def aaN{l:List Int}{d:D}(k:d=bt (λj=>[D.int j]) l)(hl:l.length<=1048576)(h:∀r:Int,r=gp l->K (.int .i64 r) []):
 FT 299 [] [.lst 41 d] K:=by
 refine en (cf 15) Tryz.func299 λA C L X=>?_;have Y:=fg X.a;have Z:=oY X.a;obtain⟨b,e,a⟩:=lenOf k;cbv;refine lu X (λi=>i<=b/\gp l=gp (l.drop i)) (λi=>b-i) 0 ⟨bw _,rfl⟩ (λ(i:Nat)=>[(7,.int .i64 i)]) ?_;rintro i ⟨s,g⟩;cbv;constructor<;>intro h1
 ·have h5:i<l.length:=lY X.a a h1;have q:A.asInt (A.cell d (bj i) 0)=l[i]:=by rw[cellAt X.a k h5,X.a];rfl
  have p:=iX X.a k h5;have n:=jX X.a h5;rw[bJ h5,iE,<-q]at g;cbv;repeat' (first|apply bk|exact zf|(intro J;cbv)|apply bB)
  any_goals first|exact p|exact n
  ·have J:A.not (A.eq (A.asInt (A.cell d (bj i) 0)) 0)=true:=yA;rw[Y,Z]at J;refine h _ ?_;rw[g,if_neg (yU J)]
  ·have J:A.not (A.eq (A.asInt (A.cell d (bj i) 0)) 0)=false:=yA;rw[Y,Z]at J;refine⟨i+1,⟨yO,?_⟩,yO,?_⟩
   ·rw[g,if_pos (yU J)]
   exact yc
 ·have h5:i=b:=gY X.a a h1;cbv;refine h 0 ?_;rw[g,h5,e,ch];rfl
end
end Go.VC.cc
namespace Go.VC
noncomputable def xI(env:List IF)(i:IF)(x:TE):Int:=
 if jW mM x.params≠0 then jW mM x.params else
 if gp [sF env (x.params.map Pm.name) x.lower,sF env (x.params.map Pm.name) x.upper]≠0 then gp [sF env (x.params.map Pm.name) x.lower,sF env (x.params.map Pm.name) x.upper]else
 if(!j7 env x.lower [] x.params|| !j7 env x.upper [] x.params)=true then 12 else
 if vc i x=false then 14 else 0
def uY(env:List IF)(vs:List S):Nat->List Pm->Int
 |_,[]=>0
 |k,p::l=>if sF env (vs.take k) p.bound≠0 then sF env (vs.take k) p.bound else uY env vs (k+1) l
def wU(env:List IF)(x:VE):Int:=
 if jW sE x.params≠0 then jW sE x.params else
 if uY env (x.params.map Pm.name) 0 x.params≠0 then uY env (x.params.map Pm.name) 0 x.params else
 sF env (x.params.map Pm.name) x.ty
def pJ(env:List IF)(x:AE):Int:=
 if(oH x.name&&oH x.target)=true then(cp env x.module x.target).2.2 else
 if(kn x.name&&kn x.target)=true then(dP env x.module x.target).2.2 else 4
end Go.VC
namespace Go.VC.cc
open Go Go.VC Go.Proofs
section
variable {e0 e3 e4 g e8 e9:S}{K:PV->List Ob->Prop}{e1 e5 e6 de c1 c2 c f kj sy:D}{e2 e7:Int}{env:List IF}{i:IF}{x:TE}
def aaL(z:i.fit)(p:x.fit){m:List (S×TE)}(B:TM m i){mu:List (S×D)}(hU:UM mu i (λs=>(tj i s).isSome=true)){d dT dU:D}(G:d=bt dy [i])(hT:dT=bt (fm fZ) m)(P:dU=bt (fm r8) mu)
 (u:p8 x e0 e1 e2 e3 e4 e5 e6 e7 e8 e9 kj sy) (h:∀b,b=vc i x->K (.bool b) []):
 FT 302 [] [.agg [.lst 97 d,.dmp 136 dT,.dmp 80 dU],tE e0 e1 e2 e3 e4 e5 e6 e7 e8 e9 kj sy] K:=by
 have k0:=u.1;have k1:=u.2.1;refine en (cf 57) Tryz.func302 λA C L X=>?_;have Y:=fg X.a;have Z:=oY X.a;cbv;refine X.call (FC.g1 (aaC z.ok.nt hU P λl E n r=>?_));rw[k0]at r;have w:=r.Om;have I:l.length<=1048576:=bM (qJ r.nd λs hs=>((r.mem s).1 hs).1.has) z.nt;obtain⟨q,v,a⟩:=lenOf n;cbv;refine lu X (λj=>j<=q/\(l.take j).all (λs=>((tj i s).getD TE.zero).params.length==x.params.length)=true) (λj=>q-j) 0 ⟨bw _,rfl⟩ (λ(j:Nat)=>[(14,.int .i64 j)]) ?_;rintro j ⟨hj,N⟩;cbv;constructor<;>intro h1
 ·have h5:j<l.length:=lY X.a a h1;have U:=iX X.a n h5;have O:=jX X.a h5;have hc:A.bG (A.cell E (bj j) 0)=l[j]:=by rw[cellAt X.a n h5,X.a];rfl
  obtain⟨y,H⟩:=eQ.1 ((r.mem l[j]).1 (br h5)).1.has;have F:A.nh dT (.str (A.bG (A.cell E (bj j) 0)))=true:=by rw[hc,X.a,hT,lD,B.get,H];rfl
  have ky:=QQ X.a hT (k:=A.bG (A.cell E (bj j) 0)) (by rw[hc,B.get];exact H);have l1:A.len (A.eY dT (.str (A.bG (A.cell E (bj j) 0))) 1)=bj y.params.length:=gE X.a ky.2.1;have l2:A.len e1=bj x.params.length:=gE X.a k1;have M:(l.take (j+1)).all (λs=>((tj i s).getD TE.zero).params.length==x.params.length)=(y.params.length==x.params.length):=by rw[cj h5,nI,N,iA,vX,List.all_nil,Bool.and_true,H];rfl
  have t:(bj y.params.length==bj x.params.length)=(y.params.length==x.params.length):=by rw[cn];simp only[beq_iff_eq,bD];omega
  cbv;repeat' (first|apply bk|exact zf|(intro J;first|exact yB F J|cbv)|apply bB)
  any_goals first|exact U|exact O
  ·rw[Y,Z,l1,l2,t]at J;refine h _ ?_;have hf:(Om i x.name).all (λs=>((tj i s).getD TE.zero).params.length==x.params.length)=false:=by rw[xy];refine⟨l[j],by rw[<- w];exact br h5,?_⟩;rw[H];intro e;rw[show (y.params.length==x.params.length)=true from e]at J;cases J
   unfold vc;rw[if_pos hf]
  ·have J:A.not (A.eq (A.len (A.eY dT (.str (A.bG (A.cell E (bj j) 0))) 1)) (A.len e1))=false:=yA;rw[Y,Z,l1,l2,t]at J;refine⟨j+1,⟨yO,?_⟩,yO,?_⟩
   ·rw[M];simpa using J
   exact yc
 ·have h5:j=q:=gY X.a a h1;rw[h5,v,bz,w]at N;have o:l.length<=4294967295:=bM I yD;unfold vc at h;rw[if_neg (by rw[N];decide),<-w]at h;cbv;repeat' (first|apply bk|exact zf|(intro J;cbv)|apply bB|(refine X.call (FC.g3 (W1 z.ok B G hT n o _ p.lo.le u.2.2.1 λb1 T=>?_));cbv)|(refine X.call (FC.g3 (W1 z.ok B G hT n o _ p.up.le u.2.2.2 λb2 Q=>?_));cbv)|(refine X.call (FC.g3 (W0 z.ok B G hT n o u _ p.lo.le (bM p.lo.sz yD) u.2.2.1 λW V=>?_));cbv)|(refine X.call (FC.g3 (W0 z.ok B G hT n o u _ p.up.le (bM p.up.sz yD) u.2.2.2 λb4 R=>?_));cbv))
  all_goals refine h _ ?_
  all_goals (try rw[<- T])
  all_goals (try rw[<- Q])
  all_goals (try rw[<- V])
  all_goals (try rw[<- R])
  ·rw[show b1=true by assumption,show b2=true by assumption,show W=true by assumption];rfl
  ·rw[show b1=true by assumption,show b2=true by assumption,show W=false by assumption];rfl
  ·rw[show b1=true by assumption,show b2=false by assumption];rfl
  ·rw[show b1=false by assumption];rfl
def aaY(he:de=bt dy env)(dJ:ey env)(w:i.fit)(d:x.fit)
 (hc:lQ i g c1 c2 c f) (k:p8 x e0 e1 e2 e3 e4 e5 e6 e7 e8 e9 kj sy) (h:∀r:Int,r=xI env i x->K (.int .i64 r) []):
 FT 281 [] [qY de g c1 c2 c f,tE e0 e1 e2 e3 e4 e5 e6 e7 e8 e9 kj sy] K:=by
 have v:=k.2.1;have z:∀{r:D},r=bt cT (x.params.map Pm.name)->(x.params.map Pm.name).length<=4294967295:=λ_=>by rw[bA];exact bM d.np yD
 have B:∀p∈x.params,Ty.le 4294967295 p.bound:=λp Q=>(d.p p Q).le;have o:x.params.length<=4294967295:=bM d.np yD;have E:x.lower.size<=4294967295:=bM d.lo.sz yD;have H:x.upper.size<=4294967295:=bM d.up.sz yD;refine en Zo Tryz.func281 λA C L X=>?_;have Y:=fg X.a;have Z:=oY X.a;have q:∀a b:Int,A.lit [[.int a],[.int b]]=bt (λj=>[D.int j]) [a,b]:=by rw[X.a];exactλ_ _=>rfl
 unfold xI at h;cbv;refine X.call (UG.1 B v λr0 s=>?_);rw[<- s]at h;refine p2 (λJ=>?_) (λJ=>?_)
 ·have J:A.not (A.eq r0 0)=true:=J;rw[Y,Z]at J;exact h _ (by rw[if_pos (yU J)])
 have J:A.not (A.eq r0 0)=false:=J;rw[Y,Z]at J;rw[if_neg (yU J)]at h;refine X.call (W5 v d.np λvs e=>?_);have n:=z e;cbv;repeat' (first|apply bk|exact zf|(intro J;cbv)|apply bB|(refine X.call (N8 he dJ e n d.lo.le E d.lo.me k.2.2.1 λP t=>?_);cbv)|(refine X.call (N8 he dJ e n d.up.le H d.up.me k.2.2.2 λr2 l=>?_);cbv))
 refine X.call (aaN (q P r2) (show (2:Nat)<=1048576 by decide) λO u=>?_);rw[<- t,<-l,<-u]at h;clear J;refine p2 (λJ=>?_) (λJ=>?_)
 ·have J:A.not (A.eq O 0)=true:=J;rw[Y,Z]at J;exact h _ (by rw[if_pos (yU J)])
 have J:A.not (A.eq O 0)=false:=J;rw[Y,Z]at J;rw[if_neg (yU J)]at h;clear J;cbv;repeat' (first|apply bk|exact zf|(intro J;cbv)|apply bB|(refine X.call (W4 he dJ v o d.lo.le k.2.2.1 λb1 M=>?_);cbv)|(refine X.call (W4 he dJ v o d.up.le k.2.2.2 λb2 I=>?_);cbv)|(refine X.call (aaM w.ok w.fW w.rf hc λm mu T dT V R F y rN G=>?_);cbv)|(refine X.call (aaL w d R F y rN G k λU N=>?_);cbv))
 all_goals refine h _ ?_
 all_goals clear h t l u s
 all_goals (try simp only[Y]at *)
 all_goals (try subst M)
 all_goals (try subst I)
 all_goals (try subst N)
 all_goals simp_all[fP]
def aaW(he:de=bt dy env)(dJ:ey env){x:AE}(d:x.fit)
 {e1 e2:S} (p:KE x e0 e1 e2) (h:∀r:Int,r=pJ env x->K (.int .i64 r) []):
 FT 283 [] [qY de g c1 c2 c f,Qi e0 e1 e2] K:=by
 obtain⟨x0,x1,x2⟩:=p;have b:e0.length<=4294967295:=by rw[x0];exact bM d.n yD
 have a:e2.length<=4294967295:=by rw[x2];exact bM d.g yD
 unfold pJ at h;rw[<- x0,<-x1,<-x2]at h;refine en (cf 53) Tryz.func283 λA C L X=>?_;cbv;repeat' (first|apply bk|exact zf|(intro J;cbv)|apply bB|(refine X.call (KN b λb1 k=>?_);cbv)|(refine X.call (KN a λb2 e=>?_);cbv)|(refine X.call (HR b λs n=>?_);cbv)|(refine X.call (HR a λq j=>?_);cbv)|(refine X.call (Rp he dJ λ_ _ _ _ _ _ _ _ _ _ _ _ o r2 _ l m=>?_);cbv)|(refine X.call (F82 he dJ λ_ _ _ _ _ _ _ o r2 _ l m=>?_);cbv))
 all_goals refine h _ ?_
 all_goals clear h
 all_goals (try subst k)
 all_goals (try subst e)
 all_goals (try subst n)
 all_goals (try subst j)
 all_goals simp_all[fP]
def aaX(he:de=bt dy env)(dJ:ey env){x:VE}(a:x.fit)
 (B:wT x e0 e1 e2 e3 e4 e5 e6) (h:∀r:Int,r=wU env x->K (.int .i64 r) []):
 FT 282 [] [qY de g c1 c2 c f,Cc e0 e1 e2 e3 e4 e5 e6] K:=by
 have n:=B.2.1;have q:(x.params.map Pm.name).length<=1048576:=by rw[bA];exact a.np
 have v:∀p∈x.params,Ty.le 4294967295 p.bound:=λp F=>(a.p p F).le;have E:x.params.length<=4294967295:=bM a.np yD;have y:x.ty.size<=4294967295:=bM a.ty.sz yD;refine en Zn Tryz.func282 λA C L X=>?_;have Y:=fg X.a;have Z:=oY X.a;unfold wU at h;cbv;refine X.call (UG.2 v n λr0 z=>?_);rw[<- z]at h;refine p2 (λJ=>?_) (λJ=>?_)
 ·have J:A.not (A.eq r0 0)=true:=J;rw[Y,Z]at J;exact h _ (by rw[if_pos (yU J)])
 have J:A.not (A.eq r0 0)=false:=J;rw[Y,Z]at J;rw[if_neg (yU J)]at h;refine X.call (W5 n a.np λvs m=>?_);obtain⟨d,k,b⟩:=lenOf n;cbv;refine lp X (λj=>j.1<=d/\uY env (x.params.map Pm.name) 0 x.params=uY env (x.params.map Pm.name) j.1 (x.params.drop j.1)) (λj=>d-j.1) (0,true) ⟨bw _,rfl⟩ (λ(j:Nat×Bool)=>⟨[(23,.int .i64 j.1),(22,.int .i64 (A.len e1)),(21,.lst 73 e1),(6,.row 9 2),(3,.box 1 0),(2,.box 0 0)],[.box [.lst 97 de,.str g,.lst 136 c1,.lst 91 c2,.lst 210 c,.lst 213 f],.box [.str e0,.lst 73 e1,.int .i64 e2,.str e3,.str e4,.lst 29 e5,.lst 57 e6],.row 9 vs j.2]⟩) ?_;rintro⟨j,fl⟩ ⟨I,e⟩;simp only at I e;cbv;constructor<;>intro h1
 ·have h5:j<x.params.length:=lY X.a b h1;have H:=im X.a n h5;have N:=iX X.a n h5;have w:=jX X.a h5;cbv;have s:A.part vs 0 (bj j)=bt cT ((x.params.map Pm.name).take j):=by rw[X.a,m,vV];simp
  have u:((x.params.map Pm.name).take j).length<=4294967295:=bM (List.length_take_le' _ _) (bM q yD);have O:(a.p _ (br h5)).le=(a.p _ (br h5)).le:=rfl;have t:x.params[j].bound.size<=4294967295:=bM (a.p _ (br h5)).sz yD;have G:A.gr 0 (bj j):=by rw[X.a];simp only[SD];omega
  have M:A.gr (bj j) (A.len vs):=by rw[X.a,m];simp only[SD,bA];omega
  rw[bJ h5,uY]at e;refine p1 ?_;refine X.call (N8 he dJ s u (a.p _ (br h5)).le t (a.p _ (br h5)).me H.2.2 λo l=>?_);rw[<- l]at e;cbv;repeat' (first|apply bk|exact zf|(intro J;cbv)|apply bB)
  any_goals exact w
  ·have J:A.not (A.eq o 0)=true:=yA;rw[Y,Z]at J;rw[if_pos (yU J)]at e;refine h _ ?_;rw[e,if_pos (yU J)]
  ·have J:A.not (A.eq o 0)=false:=yA;rw[Y,Z]at J;have h4:o=0:=yU J;rw[if_neg (by rw[h4];decide)]at e;exact⟨(j+1,false),⟨yP,e⟩,yP,yc⟩
 ·have h5:j=d:=gY X.a b h1;have hz:uY env (x.params.map Pm.name) 0 x.params=0:=by rw[e,h5,k,ch];rfl
  rw[hz,if_neg yD]at h;cbv;refine X.call (N8 he dJ m (bM q yD) a.ty.le y a.ty.me B.2.2 λo l=>?_);cbv;exact h o l
end
end Go.VC.cc
namespace Go.VC
end Go.VC
namespace Go.VC.cc
open Go Go.VC Go.Proofs
end Go.VC.cc
namespace Go.VC
def Fi(i:IF):Int:=if IG i.path=false then 4 else if 64<i.types.length+i.values.length+i.aliases.length then 7 else 0
def CN(i:IF):List S:=i.types.map TE.name
def xn(i:IF):List S:=i.values.map VE.name
def Bi(i:IF):List S:=i.aliases.map AE.name
def Yg(i:IF):List S:=i.deprecated.map DE.name
end Go.VC
namespace Go.VC.cc
open Go Go.VC Go.Proofs
section
variable {i:IF}{de c1 c2 a c:D}{d:S}{K:PV->List Ob->Prop}
def abf(f:i.fit)(hc:lQ i d c1 c2 a c)(h:∀r:Int,r=Fi i->K (.tup [.str [],.int .i64 r]) []):
 FT 245 [] [qY de d c1 c2 a c] K:=by
 have g:d.length<=4294967200:=by rw[hc.1];exact bM f.path yD
 unfold Fi at h;rw[<- hc.1]at h;refine en (cf 26) Tryz.func245 λA C L X=>?_;have l1:A.len c1=bj i.types.length:=gE X.a hc.2.1;have l2:A.len c2=bj i.values.length:=gE X.a hc.2.2.1;have l3:A.len a=bj i.aliases.length:=gE X.a hc.2.2.2.1;have Y:=fg X.a;have l:=f.nt;have m:=f.nv;have n:=f.na;have j:A.inr .i64 (A.add (A.len c1) (A.len c2)):=by rw[l1,l2,X.a];simp only[SD];omega
 have k:A.inr .i64 (A.add (A.add (A.len c1) (A.len c2)) (A.len a)):=by rw[l1,l2,l3,X.a];simp only[SD];omega
 cbv;repeat' (first|apply bk|exact zf|(intro J;cbv)|apply bB|(refine X.call (W7 g λb hb=>?_);cbv))
 ·rw[Y,hb]at J;refine h _ ?_;rw[if_pos (yU J)]
 ·exact j
 ·exact k
 ·have h3:A.not b=false:=yA;rw[Y,hb]at h3;rw[l1,l2,l3,X.a]at J;simp only[SD]at J;refine h _ ?_;rw[if_neg (by intro e;rw[e]at h3;cases h3),if_pos yO]
 ·have h3:A.not b=false:=yA;rw[Y,hb]at h3;rw[l1,l2,l3,X.a]at J;simp only[SD]at J;refine h _ ?_;rw[if_neg (by intro e;rw[e]at h3;cases h3),if_neg yO]
def U9:dH:={tt:=tt,n:=79,own:=[4]}
def Tv(N:i.fit)(hc:lQ i d c1 c2 a c)
 (h:∀d0 Q d2 P,d0=bt cT (CN i)->Q=bt cT (xn i)->d2=bt cT (Bi i)->P=bt cT (Yg i)->K (.tup [.agg [.lst 9 d0,.lst 9 Q,.lst 9 d2,.lst 9 P],.agg [.cu 185 [],.cu 263 [],.cu 295 [],.cu 295 []]]) []):
 FT 280 [] [qY de d c1 c2 a c] K:=by
 refine en U9 Tryz.func280 λA C L X=>?_;have U:=N.nt;have V:=N.nv;have R:=N.na;have T:=N.nd;obtain⟨p,q⟩:∃n,n=i.types.length:=⟨_,rfl⟩;have e:Std.len c1=bj p:=by rw[hc.2.1,dp,q];rfl
 cbv;refine lP X (λy=>y.1<=p/\y.2=bt cT ((i.types.take y.1).map TE.name)) (λy=>p-y.1) (0,.list []) ⟨bw _,rfl⟩ [0,1,2,3,4,5,6,7] (λ(y:Nat×D)=>⟨[(17,.int .i64 y.1),(16,.int .i64 (A.len c1)),(15,.lst 136 c1),(4,.box 7 0),(3,.box 2 0),(2,.box 1 0),(1,.box 0 0)],[.box [.lst 97 de,.str d,.lst 136 c1,.lst 91 c2,.lst 210 a,.lst 213 c],.box [.lst 9 (.list []),.lst 9 (.list []),.lst 9 (.list []),.lst 9 (.list [])],.box [.nilf,.nilf,.nilf,.nilf],.row 9 (y.2) true,.row 9 (.list []) true,.row 9 (.list []) true,.row 9 (.list []) true,.box [.row 9 3,.row 9 4,.row 9 5,.row 9 6]]⟩) ?_;rintro⟨j,r0⟩ ⟨z,u⟩;simp only at z u;cbv;constructor<;>intro h1
 ·have h5:j<i.types.length:=lY X.a e h1;have B:=mQ X.a hc.2.1 h5;have E:=B.1;have I:=iX X.a hc.2.1 h5;have G:=jX X.a h5;have H:A.gr (A.add (A.len r0) (A.len (A.lit [[.str (A.bG (A.cell c1 (bj j) 0))]]))) 4294967296:=by rw[X.a,u];simp only[SD,bA];omega
  have F:A.app r0 (A.lit [[.str (A.bG (A.cell c1 (bj j) 0))]])=bt cT ((i.types.take (j+1)).map TE.name):=by rw[E,X.a,u,map_take h5];exact cD (k:=[i.types[j].name])
  refine p1 ?_;exact⟨(j+1,_),⟨yP,F⟩,yP,[0,1,2,3,4,5,6,7],rfl,yc⟩
 have h5:j=p:=gY X.a e h1;rw[h5,q,bz]at u;clear h1 z;obtain⟨l,s⟩:∃n,n=i.values.length:=⟨_,rfl⟩;have g:Std.len c2=bj l:=by rw[hc.2.2.1,dp,s];rfl
 cbv;refine lP X (λy=>y.1<=l/\y.2=bt cT ((i.values.take y.1).map VE.name)) (λy=>l-y.1) (0,.list []) ⟨bw _,rfl⟩ [0,1,2,3,4,5,6,7] (λ(y:Nat×D)=>⟨[(33,.int .i64 y.1),(32,.int .i64 (A.len c2)),(31,.lst 91 c2),(4,.box 7 0),(3,.box 2 0),(2,.box 1 0),(1,.box 0 0)],[.box [.lst 97 de,.str d,.lst 136 c1,.lst 91 c2,.lst 210 a,.lst 213 c],.box [.lst 9 (.list []),.lst 9 (.list []),.lst 9 (.list []),.lst 9 (.list [])],.box [.nilf,.nilf,.nilf,.nilf],.row 9 (r0) true,.row 9 (y.2) true,.row 9 (.list []) true,.row 9 (.list []) true,.box [.row 9 3,.row 9 4,.row 9 5,.row 9 6]]⟩) ?_;rintro⟨j,M⟩ ⟨z,w⟩;simp only at z w;cbv;constructor<;>intro h1
 ·have h5:j<i.values.length:=lY X.a g h1;have B:=pg X.a hc.2.2.1 h5;have E:=B.1;have I:=iX X.a hc.2.2.1 h5;have G:=jX X.a h5;have H:A.gr (A.add (A.len M) (A.len (A.lit [[.str (A.bG (A.cell c2 (bj j) 0))]]))) 4294967296:=by rw[X.a,w];simp only[SD,bA];omega
  have F:A.app M (A.lit [[.str (A.bG (A.cell c2 (bj j) 0))]])=bt cT ((i.values.take (j+1)).map VE.name):=by rw[E,X.a,w,map_take h5];exact cD (k:=[i.values[j].name])
  refine p1 ?_;exact⟨(j+1,_),⟨yP,F⟩,yP,[0,1,2,3,4,5,6,7],rfl,yc⟩
 have h5:j=l:=gY X.a g h1;rw[h5,s,bz]at w;clear h1 z;obtain⟨m,v⟩:∃n,n=i.aliases.length:=⟨_,rfl⟩;have b:Std.len a=bj m:=by rw[hc.2.2.2.1,dp,v];rfl
 cbv;refine lP X (λy=>y.1<=m/\y.2=bt cT ((i.aliases.take y.1).map AE.name)) (λy=>m-y.1) (0,.list []) ⟨bw _,rfl⟩ [0,1,2,3,4,5,6,7] (λ(y:Nat×D)=>⟨[(49,.int .i64 y.1),(48,.int .i64 (A.len a)),(47,.lst 210 a),(4,.box 7 0),(3,.box 2 0),(2,.box 1 0),(1,.box 0 0)],[.box [.lst 97 de,.str d,.lst 136 c1,.lst 91 c2,.lst 210 a,.lst 213 c],.box [.lst 9 (.list []),.lst 9 (.list []),.lst 9 (.list []),.lst 9 (.list [])],.box [.nilf,.nilf,.nilf,.nilf],.row 9 (r0) true,.row 9 (M) true,.row 9 (y.2) true,.row 9 (.list []) true,.box [.row 9 3,.row 9 4,.row 9 5,.row 9 6]]⟩) ?_;rintro⟨j,r2⟩ ⟨z,r⟩;simp only at z r;cbv;constructor<;>intro h1
 ·have h5:j<i.aliases.length:=lY X.a b h1;have B:=z8 X.a hc.2.2.2.1 h5;have E:=B.1;have I:=iX X.a hc.2.2.2.1 h5;have G:=jX X.a h5;have H:A.gr (A.add (A.len r2) (A.len (A.lit [[.str (A.bG (A.cell a (bj j) 0))]]))) 4294967296:=by rw[X.a,r];simp only[SD,bA];omega
  have F:A.app r2 (A.lit [[.str (A.bG (A.cell a (bj j) 0))]])=bt cT ((i.aliases.take (j+1)).map AE.name):=by rw[E,X.a,r,map_take h5];exact cD (k:=[i.aliases[j].name])
  refine p1 ?_;exact⟨(j+1,_),⟨yP,F⟩,yP,[0,1,2,3,4,5,6,7],rfl,yc⟩
 have h5:j=m:=gY X.a b h1;rw[h5,v,bz]at r;clear h1 z;obtain⟨o,t⟩:∃n,n=i.deprecated.length:=⟨_,rfl⟩;have f:Std.len c=bj o:=by rw[hc.2.2.2.2,dp,t];rfl
 cbv;refine lP X (λy=>y.1<=o/\y.2=bt cT ((i.deprecated.take y.1).map DE.name)) (λy=>o-y.1) (0,.list []) ⟨bw _,rfl⟩ [0,1,2,3,4,5,6,7] (λ(y:Nat×D)=>⟨[(65,.int .i64 y.1),(64,.int .i64 (A.len c)),(63,.lst 213 c),(4,.box 7 0),(3,.box 2 0),(2,.box 1 0),(1,.box 0 0)],[.box [.lst 97 de,.str d,.lst 136 c1,.lst 91 c2,.lst 210 a,.lst 213 c],.box [.lst 9 (.list []),.lst 9 (.list []),.lst 9 (.list []),.lst 9 (.list [])],.box [.nilf,.nilf,.nilf,.nilf],.row 9 (r0) true,.row 9 (M) true,.row 9 (r2) true,.row 9 (y.2) true,.box [.row 9 3,.row 9 4,.row 9 5,.row 9 6]]⟩) ?_;rintro⟨j,O⟩ ⟨z,x⟩;simp only at z x;cbv;constructor<;>intro h1
 ·have h5:j<i.deprecated.length:=lY X.a f h1;have B:=Nn X.a hc.2.2.2.2 h5;have E:=B.1;have I:=iX X.a hc.2.2.2.2 h5;have G:=jX X.a h5;have H:A.gr (A.add (A.len O) (A.len (A.lit [[.str (A.bG (A.cell c (bj j) 0))]]))) 4294967296:=by rw[X.a,x];simp only[SD,bA];omega
  have F:A.app O (A.lit [[.str (A.bG (A.cell c (bj j) 0))]])=bt cT ((i.deprecated.take (j+1)).map DE.name):=by rw[E,X.a,x,map_take h5];exact cD (k:=[i.deprecated[j].name])
  refine p1 ?_;exact⟨(j+1,_),⟨yP,F⟩,yP,[0,1,2,3,4,5,6,7],rfl,yc⟩
 have h5:j=o:=gY X.a f h1;rw[h5,t,bz]at x;clear h1 z;cbv;exact h r0 M r2 O u w r x
end
end Go.VC.cc
namespace Go.VC
section
variable {f:S->Bool}{s p:S}{l:List S}
def jy(f:S->Bool):Option S->List S->S×Int
 |_,[]=>([],0)
 |none,s::l=>if f s=false then(s,4)else jy f (some s) l
 |some p,s::l=>if f s=false then(s,4)else if s=p then(s,5)else if slt s p=true then(s,1)else jy f (some s) l
def iy(a b:S×Int):S×Int:=if a.2≠0 then a else b
def I7(s:S):Bool:=kn s||oH s
def yM(i:IF):S×Int:=iy (jy oH none (CN i)) (iy (jy kn none (xn i)) (iy (jy I7 none (Bi i)) (iy (jy I7 none (Yg i)) ([],0))))
def mc(l:List S)(j:Nat):Option S:=if j=0 then none else some (l.getD (j-1) [])
def IQ{p:Option S}(h:f s=false):jy f p (s::l)=(s,4):=by cases p<;>rw[jy,if_pos h]
def Pl(h:f s=true):jy f none (s::l)=jy f (some s) l:=by rw[jy,if_neg (by rw[h];decide)]
def Pn(h:f s=true)(J:s=p):jy f (some p) (s::l)=(s,5):=by rw[jy,if_neg (by rw[h];decide),if_pos J]
def Po(h:f s=true)(J:s≠p)(h3:slt s p=true):jy f (some p) (s::l)=(s,1):=by rw[jy,if_neg (by rw[h];decide),if_neg J,if_pos h3]
def Pk(h:f s=true)(J:s≠p)(h3:slt s p=false):jy f (some p) (s::l)=jy f (some s) l:=by rw[jy,if_neg (by rw[h];decide),if_neg J,if_neg (by rw[h3];decide)]
def DC(g:S->Bool):List S->S×Int
 |[]=>([],0)
 |s::l=>if g s=true then(s,5)else DC g l
def BQ(i:IF):S×Int:=iy (DC (CN i).contains (xn i)) (DC (λs=>(CN i).contains s||(xn i).contains s) (Bi i))
def ow{α:Type}(e:α->Int)(n:α->S):List α->S×Int
 |[]=>([],0)
 |x::l=>if e x≠0 then(n x,e x)else ow e n l
noncomputable def nu(env:List IF)(i:IF):S×Int:=iy (ow (xI env i) TE.name i.types) (iy (ow (wU env) VE.name i.values) (ow (pJ env) AE.name i.aliases))
end
end Go.VC
namespace Go.VC.cc
open Go Go.VC Go.Proofs
def Uu{A:pP}(ha:A=Std){d:D}{l:List S}(e:d=bt cT l){j:Nat}(h5:j<l.length)(hl:l.length<=1048576)(h:A.lt 0 (bj j)=true):
 A.inr .i64 (A.sub (bj j) 1)/\A.idx (A.sub (bj j) 1) (A.len d)/\∃p,mc l j=some p/\A.bG (A.cell d (A.sub (bj j) 1) 0)=p:=by
 have dA:∀a b:Int,A.lt a b=decide (a<b):=by rw[ha];exactλ_ _=>rfl
 rw[dA]at h;have h:=of_decide_eq_true h;simp only[bD]at h;have c:j-1<l.length:=yO;have hs:A.sub (bj j) 1=bj (j-1):=by rw[ha];simp only[SD];omega
 rw[hs];refine⟨?_,?_,l[j-1],?_,?_⟩
 ·rw[ha];simp only[SD];omega
 ·rw[ha,e];exact cY c
 ·rw[mc,if_neg yO];simp[cx,c]
 ·exact pT ha e c
def abe{i:IF}(B:i.fit){de:D}{c0:S}{c1 c2 c3 c4:D}(hc:lQ i c0 c1 c2 c3 c4){K:PV->List Ob->Prop}(h:∀(s:S)(r:Int),(s,r)=yM i->K (.tup [.str s,.int .i64 r]) []):
 FT 246 [] [qY de c0 c1 c2 c3 c4] K:=by
 refine en (cf 63) Tryz.func246 λA C L X=>?_;have Y:=fg X.a;have dA:=IV X.a;have I:=OT X.a;have T:=slA X.a;have W:∀k:Nat,k<4->A.inr .i64 (A.add (bj k) 1):=by rw[X.a];exactλk hk=>fN hk yD
 cbv;refine X.call (Tv B hc λd0 d1 d2 d3 am al ag aj=>?_);obtain⟨u,q⟩:∃f:Nat->List S,f=λk=>[CN i,xn i,Bi i,Yg i].getD k []:=⟨_,rfl⟩;obtain⟨P,G⟩:∃f:Nat->S->Bool,f=λk=>[oH,kn,I7].getD k I7:=⟨_,rfl⟩;obtain⟨E,hE⟩:∃f:Nat->S×Int,f=λk=>jy (P k) none (u k):=⟨_,rfl⟩;have hN:yM i=iy (E 0) (iy (E 1) (iy (E 2) (iy (E 3) ([],0)))):=by rw[hE,G,q];rfl
 rw[hN]at h
 have dJ:∀k,k<4->(u k).length<=1048576/\∀s∈u k,s.length<=4294967295:=by
  intro k hk;have d:k=0\/k=1\/k=2\/k=3:=yO;rw[q];rcases d with rfl|rfl|rfl|rfl<;>refine⟨bM (Nat.le_of_eq (bA _)) ?_,λs hs=>?_⟩
  any_goals obtain⟨x,hx,rfl⟩:=bH.1 hs
  all_goals first|exact B.nt|exact B.nv|exact B.na|exact B.nd|exact bM (B.t x hx).n yD|exact bM (B.v x hx).n yD|exact bM (B.a x hx).n yD|exact bM (B.d x hx).n yD
 cbv;refine lu X (λk=>k<=4/\∀m,m<k->(E m).2=0) (λk=>4-k) 0 ⟨bw _,λ_ h=>absurd h (Nat.not_lt_zero _)⟩ (λ(k:Nat)=>[(16,.int .i64 k)]) ?_;rintro k ⟨hk,w⟩;have v:A.lt (bj k) 4=decide (k<4):=by rw[dA];simp;omega
 have d:k=4\/k<4:=yO;rcases d with rfl|z
 ·cbv;refine⟨λh1=>absurd (v.symm.trans h1) yD,λh1=>?_⟩;cbv;refine h [] 0 ?_;simp[iy,w]
 rw[decide_eq_true z]at v;have c:∀(s:S)(r:Int),E k=(s,r)->r≠0->K (.tup [.str s,.int .i64 r]) []:=by intro s r e hr;refine h s r ?_;have d:k=0\/k=1\/k=2\/k=3:=yO;rcases d with rfl|rfl|rfl|rfl<;>simp[iy,w,e,hr]
 have V:E k=([],0)->k+1<=4/\∀m,m<k+1->(E m).2=0:=λe=>⟨z,λm hm=>by
  rcases bR m k with h|h
  ·exact w m h
  ·rw[show m=k by omega,e]⟩
 have R:=W k z;obtain⟨Q,fW⟩:=dJ k z;have F:E k=jy (P k) none (u k):=by rw[hE]
 obtain⟨EE,ad⟩:∃x,x=E k:=⟨_,rfl⟩;obtain⟨nm,o⟩:∃x,x=u k:=⟨_,rfl⟩;obtain⟨ff,O⟩:∃x,x=P k:=⟨_,rfl⟩;rw[<- ad]at c V F;rw[<- o]at Q fW F;rw[<- O]at F;rw[q]at o;rw[G]at O;have d:k=0\/k=1\/k=2\/k=3:=yO;clear dA hN h w dJ hE ad;rcases d with rfl|rfl|rfl|rfl;have H:=am.trans (congrArg (bt cT) o.symm);obtain⟨n,rfl⟩:∃x,x=d0:=⟨_,rfl⟩
 rotate_left
 have H:=al.trans (congrArg (bt cT) o.symm);obtain⟨n,rfl⟩:∃x,x=d1:=⟨_,rfl⟩
 rotate_left
 have H:=ag.trans (congrArg (bt cT) o.symm);obtain⟨n,rfl⟩:∃x,x=d2:=⟨_,rfl⟩
 rotate_left
 have H:=aj.trans (congrArg (bt cT) o.symm);obtain⟨n,rfl⟩:∃x,x=d3:=⟨_,rfl⟩
 all_goals
  obtain⟨M,aa,g⟩:=lenOf H;cbv;refine⟨λh1=>?_,λh1=>absurd (v.symm.trans h1) yD⟩;cbv;refine lu X (λj=>j<=M/\EE=jy ff (mc nm j) (nm.drop j)) (λj=>M-j) 0 ⟨bw _,F⟩ (λj=>[(22,.int .i64 j)]) ?_;rintro j ⟨hj,t⟩;cbv;constructor<;>intro h1
  ·have h5:j<nm.length:=lY X.a g h1;have an:=iX X.a H h5;have U:=jX X.a h5;have a:=pT X.a H h5;have oV:=fW _ (br h5);rw[<- a]at oV;have ai:A.lt 0 (bj j)=false->mc nm j=none:=by intro h;rw[X.a]at h;have h:=of_decide_eq_false h;simp only[bD]at h;rw[mc,if_pos yO]
   have N:mc nm (j+1)=some nm[j]:=by rw[mc,if_neg yO];simp[cx,h5]
   obtain⟨sj,ae⟩:∃x,x=nm[j]:=⟨_,rfl⟩;rw[bJ h5,<-ae]at t;rw[<- ae]at N a;cbv;repeat' (first|apply bk|exact zf|(intro J;cbv)|apply bB)
   any_goals exact an
   first|refine X.call (KN oV λb hb=>?_)|refine X.call (HR oV λb hb=>?_)|refine X.call (aaO oV λb hb=>?_)
   have hb:b=ff sj:=by rw[O,<-a];exact hb
   cases hz:A.lt 0 (bj j)with
   |true=>
    obtain⟨ac,ab,p,ah,y⟩:=Uu X.a H h5 Q hz;rw[ah]at t;cbv;repeat' (first|apply bk|exact zf|(intro J;first|exact yB hz J|cbv)|apply bB)
    any_goals first|exact U|exact ac|exact ab
    ·have J:A.not b=true:=yA;rw[Y,hb]at J;refine c _ _ ?_ yD;rw[t,IQ (yU J)];exact fq a.symm rfl
    ·have J:A.not b=false:=yA;have h3:A.seq (A.bG (A.cell n (bj j) 0)) (A.bG (A.cell n (A.sub (bj j) 1) 0))=true:=yA;rw[Y,hb]at J;rw[a,y,I]at h3;refine c _ _ ?_ yD;rw[t,Pn (yU J) (yU h3)];exact fq a.symm rfl
    ·have J:A.not b=false:=yA;have h3:A.seq (A.bG (A.cell n (bj j) 0)) (A.bG (A.cell n (A.sub (bj j) 1) 0))=false:=yA;have h4:A.slt (A.bG (A.cell n (bj j) 0)) (A.bG (A.cell n (A.sub (bj j) 1) 0))=true:=yA;rw[Y,hb]at J;rw[a,y,I]at h3;rw[a,y,T]at h4;refine c _ _ ?_ yD;rw[t,Po (yU J) (yU h3) h4];exact fq a.symm rfl
    ·have J:A.not b=false:=yA;have h3:A.seq (A.bG (A.cell n (bj j) 0)) (A.bG (A.cell n (A.sub (bj j) 1) 0))=false:=yA;have h4:A.slt (A.bG (A.cell n (bj j) 0)) (A.bG (A.cell n (A.sub (bj j) 1) 0))=false:=yA;rw[Y,hb]at J;rw[a,y,I]at h3;rw[a,y,T]at h4;refine⟨j+1,⟨yO,?_⟩,yO,?_⟩
     ·rw[N,t,Pk (yU J) (yU h3) h4]
     exact yc
   |false=>
    rw[ai hz]at t;cbv;repeat' (first|apply bk|exact zf|(intro J;first|exact yB hz J|cbv)|apply bB)
    any_goals first|exact U
    ·have J:A.not b=true:=yA;rw[Y,hb]at J;refine c _ _ ?_ yD;rw[t,IQ (yU J)];exact fq a.symm rfl
    ·have J:A.not b=false:=yA;rw[Y,hb]at J;refine⟨j+1,⟨yO,?_⟩,yO,?_⟩
     ·rw[N,t,Pl (yU J)]
     exact yc
  ·have h5:j=M:=gY X.a g h1;rw[h5,aa,ch]at t;have hz:EE=([],0):=by rw[t];unfold jy;cases mc nm (nm.length)<;>rfl
   cbv;repeat' (first|apply bk|exact zf|(intro J;cbv)|apply bB)
   any_goals exact R
   exact⟨_,V hz,yD,by(cbv;repeat' apply bk);all_goals try first|trivial|rfl|(rw[X.a];rfl)⟩
end Go.VC.cc
namespace Go.VC
def Df{α:Type}{e:α->Int}{n:α->S}:∀{l:List α},(∀x∈l,e x=0)->ow e n l=([],0)
 |[],_=>rfl
 |x::l,h=>by rw[ow,if_neg (by rw[h x yS];decide)];exact Df λy d=>h y (by simp[d])
end Go.VC
namespace Go.VC.cc
open Go Go.VC Go.Proofs
section
variable {i:IF}{de c1 c2 a c:D}{b:S}{K:PV->List Ob->Prop}
def abd(M:i.fit)(hc:lQ i b c1 c2 a c)(h:∀(s:S)(r:Int),(s,r)=BQ i->K (.tup [.str s,.int .i64 r]) []):
 FT 247 [] [qY de b c1 c2 a c] K:=by
 refine en (cf 47) Tryz.func247 λA C L X=>?_;have R:(CN i).length<=4294967295:=by rw[CN,bA];exact M.ok.nt
 have T:(xn i).length<=4294967295:=by rw[xn,bA];exact M.ok.nv
 have nA:(Bi i).length<=4294967295:=by rw[Bi,bA];exact M.ok.na
 cbv;refine X.call (Tv M hc λd0 d1 d2 d3 I p u V=>?_);obtain⟨t,o⟩:∃G:S->Bool,∀s,(CN i).contains s=G s:=⟨λs=>(CN i).contains s,λ_=>rfl⟩;obtain⟨N,H⟩:∃G:S->Bool,∀s,(xn i).contains s=G s:=⟨λs=>(xn i).contains s,λ_=>rfl⟩;obtain⟨E0,v⟩:∃x,x=DC t (xn i):=⟨_,rfl⟩;obtain⟨Q,y⟩:∃x,x=DC (λs=>t s||N s) (Bi i):=⟨_,rfl⟩;have U:BQ i=iy E0 Q:=by rw[v,y];unfold BQ;rw[show (CN i).contains=t from funext o,show (xn i).contains=N from funext H]
 rw[U]at h;obtain⟨m,w,f⟩:=lenOf p;cbv;refine lu X (λj=>j<=m/\E0=DC t ((xn i).drop j)) (λj=>m-j) 0 ⟨bw _,v⟩ (λ(j:Nat)=>[(18,.int .i64 j)]) ?_;rintro j ⟨P,g⟩;cbv;constructor<;>intro h1
 ·have h5:j<(xn i).length:=by obtain rfl:=X.a;simp only[f,SD]at h1;omega
  have B:=iX X.a p h5;have z:=jX X.a h5;have d:A.bG (A.cell d1 (bj j) 0)=(xn i)[j]:=by rw[cellAt X.a p h5,X.a];rfl
  obtain⟨F,n⟩:∃x,x=(xn i)[j]:=⟨_,rfl⟩;rw[bJ h5,<-n,DC]at g;rw[<- n]at d;cbv;repeat' (first|apply bk|exact zf|(intro J;cbv)|apply bB|(refine X.call (Rr I R λb1 e=>?_);cbv))
  any_goals first|exact B|exact z
  ·have e:b1=t F:=by rw[<- o,<-d];exact e
   refine h _ 5 ?_;rw[if_pos (by rw[<- e,J])]at g;rw[g,iy,if_pos (show (5:Int)≠0 by decide)];exact fq d rfl
  ·have J:b1=false:=yA;have e:b1=t F:=by rw[<- o,<-d];exact e
   rw[if_neg (by rw[<- e,J];decide)]at g;refine⟨j+1,⟨by omega,g⟩,by omega,?_⟩;exact yc
 have h5:j=m:=gY X.a f h1;have O:E0=([],0):=by rw[g,h5,w,ch];rfl
 clear g h1 h5 P v;obtain⟨l,E,k⟩:=lenOf u;cbv;refine lu X (λj=>j<=l/\Q=DC (λs=>t s||N s) ((Bi i).drop j)) (λj=>l-j) 0 ⟨bw _,y⟩ (λ(j:Nat)=>[(31,.int .i64 j)]) ?_;rintro j ⟨P,g⟩;cbv;constructor<;>intro h1
 ·have h5:j<(Bi i).length:=by obtain rfl:=X.a;simp only[k,SD]at h1;omega
  have B:=iX X.a u h5;have z:=jX X.a h5;have d:A.bG (A.cell d2 (bj j) 0)=(Bi i)[j]:=by rw[cellAt X.a u h5,X.a];rfl
  obtain⟨F,n⟩:∃x,x=(Bi i)[j]:=⟨_,rfl⟩;rw[bJ h5,<-n,DC]at g;rw[<- n]at d;cbv;repeat' (first|apply bk|exact zf|(intro J;cbv)|apply bB|(refine X.call (Rr I R λb1 e=>?_);cbv)|(refine X.call (Rr p T λb2 q=>?_);cbv))
  any_goals first|exact B|exact z
  all_goals have e:b1=t F:=by rw[<- o,<-d];exact e
  all_goals (try have q:b2=N F:=by rw[<- H,<-d];exact q)
  ·refine h _ 5 ?_;rw[if_pos (by rw[<- q,J,xz])]at g;rw[O,g,iy,if_neg yD];exact fq d rfl
  ·have J:b2=false:=yA;have h3:b1=false:=yA;rw[if_neg (by rw[<- e,<-q,J,h3];decide)]at g;refine⟨j+1,⟨by omega,g⟩,by omega,?_⟩;exact yc
  ·have J:b1=true:=yA;refine h _ 5 ?_;rw[if_pos (by rw[<- e,J,Bool.true_or])]at g;rw[O,g,iy,if_neg (by decide)];exact fq d rfl
 have h5:j=l:=gY X.a k h1;have W:Q=([],0):=by rw[g,h5,E,ch];rfl
 clear g h1 h5 P y;cbv;refine h [] 0 ?_;rw[O,W];rfl
def abc{env:List IF}(he:de=bt dy env)(dJ:ey env)(E:i.fit)(hc:lQ i b c1 c2 a c)(h:∀(s:S)(r:Int),(s,r)=nu env i->K (.tup [.str s,.int .i64 r]) []):
 FT 248 [] [qY de b c1 c2 a c] K:=by
 refine en (cf 64) Tryz.func248 λA C L X=>?_;have Y:=fg X.a;have Z:=oY X.a;have nt:=E.nt;have nv:=E.nv;have na:=E.na;obtain⟨E0,z⟩:∃x,x=ow (xI env i) TE.name i.types:=⟨_,rfl⟩;obtain⟨N,B⟩:∃x,x=ow (wU env) VE.name i.values:=⟨_,rfl⟩;obtain⟨E2,F⟩:∃x,x=ow (pJ env) AE.name i.aliases:=⟨_,rfl⟩;unfold nu at h;rw[<- z,<-B,<-F]at h;obtain⟨o,p⟩:∃n,n=i.types.length:=⟨_,rfl⟩;have f:Std.len c1=bj o:=by rw[hc.2.1,dp,p];rfl
 cbv;refine lp X (λj=>j<=o/\E0=ow (xI env i) TE.name (i.types.drop j)) (λj=>o-j) 0 ⟨bw _,z⟩ (λ(j:Nat)=>⟨[(17,.int .i64 j),(16,.int .i64 (A.len c1)),(15,.lst 136 c1),(1,.box 0 0)],[.box [.lst 97 de,.str b,.lst 136 c1,.lst 91 c2,.lst 210 a,.lst 213 c]]⟩) ?_;rintro j ⟨H,d⟩;cbv;constructor<;>intro h1
 ·have h5:j<i.types.length:=lY X.a f h1;have y:=mQ X.a hc.2.1 h5;have G:=y.1;have w:=iX X.a hc.2.1 h5;have t:=jX X.a h5;rw[bJ h5,ow]at d;cbv;repeat' (first|apply bk|exact zf|(intro J;cbv)|apply bB)
  any_goals exact w
  refine X.call (aaY he dJ E (E.t _ (br h5)) hc y λk v=>?_);rw[<- v]at d;cbv;repeat' (first|apply bk|exact zf|(intro J;cbv)|apply bB)
  any_goals exact t
  ·have J:A.not (A.eq k 0)=true:=yA;rw[Y,Z]at J;rw[if_pos (yU J)]at d;refine h _ k ?_;rw[d,iy,if_pos (show k≠0 by simpa using J)];exact fq G rfl
  ·have J:A.not (A.eq k 0)=false:=by assumption
   rw[Y,Z]at J;have h4:k=0:=yU J;rw[if_neg (by rw[h4];decide)]at d;exact⟨j+1,⟨yO,d⟩,yO,yc⟩
 have h5:j=o:=gY X.a f h1;have I:E0=([],0):=by rw[d,h5,p,ch];rfl
 clear d h1 h5 H z;obtain⟨l,q⟩:∃n,n=i.values.length:=⟨_,rfl⟩;have g:Std.len c2=bj l:=by rw[hc.2.2.1,dp,q];rfl
 cbv;refine lp X (λj=>j<=l/\N=ow (wU env) VE.name (i.values.drop j)) (λj=>l-j) 0 ⟨bw _,B⟩ (λ(j:Nat)=>⟨[(34,.int .i64 j),(33,.int .i64 (A.len c2)),(32,.lst 91 c2),(1,.box 0 0)],[.box [.lst 97 de,.str b,.lst 136 c1,.lst 91 c2,.lst 210 a,.lst 213 c]]⟩) ?_;rintro j ⟨H,d⟩;cbv;constructor<;>intro h1
 ·have h5:j<i.values.length:=lY X.a g h1;have y:=pg X.a hc.2.2.1 h5;have G:=y.1;have w:=iX X.a hc.2.2.1 h5;have t:=jX X.a h5;rw[bJ h5,ow]at d;cbv;repeat' (first|apply bk|exact zf|(intro J;cbv)|apply bB)
  any_goals exact w
  refine X.call (aaX he dJ (E.v _ (br h5)) y λk v=>?_);rw[<- v]at d;cbv;repeat' (first|apply bk|exact zf|(intro J;cbv)|apply bB)
  any_goals exact t
  ·have J:A.not (A.eq k 0)=true:=yA;rw[Y,Z]at J;rw[if_pos (yU J)]at d;refine h _ k ?_;rw[I,d,iy,if_neg yD,iy,if_pos (show k≠0 by simpa using J)];exact fq G rfl
  ·have J:A.not (A.eq k 0)=false:=yA;rw[Y,Z]at J;have h4:k=0:=yU J;rw[if_neg (by rw[h4];decide)]at d;exact⟨j+1,⟨yO,d⟩,yO,yc⟩
 have h5:j=l:=gY X.a g h1;have M:N=([],0):=by rw[d,h5,q,ch];rfl
 clear d h1 h5 H B;obtain⟨m,u⟩:∃n,n=i.aliases.length:=⟨_,rfl⟩;have e:Std.len a=bj m:=by rw[hc.2.2.2.1,dp,u];rfl
 cbv;refine lp X (λj=>j<=m/\E2=ow (pJ env) AE.name (i.aliases.drop j)) (λj=>m-j) 0 ⟨bw _,F⟩ (λ(j:Nat)=>⟨[(51,.int .i64 j),(50,.int .i64 (A.len a)),(49,.lst 210 a),(1,.box 0 0)],[.box [.lst 97 de,.str b,.lst 136 c1,.lst 91 c2,.lst 210 a,.lst 213 c]]⟩) ?_;rintro j ⟨H,d⟩;cbv;constructor<;>intro h1
 ·have h5:j<i.aliases.length:=lY X.a e h1;have y:=z8 X.a hc.2.2.2.1 h5;have G:=y.1;have w:=iX X.a hc.2.2.2.1 h5;have t:=jX X.a h5;rw[bJ h5,ow]at d;cbv;repeat' (first|apply bk|exact zf|(intro J;cbv)|apply bB)
  any_goals exact w
  refine X.call (aaW he dJ (E.a _ (br h5)) y λk v=>?_);rw[<- v]at d;cbv;repeat' (first|apply bk|exact zf|(intro J;cbv)|apply bB)
  any_goals exact t
  ·have J:A.not (A.eq k 0)=true:=yA;rw[Y,Z]at J;rw[if_pos (yU J)]at d;refine h _ k ?_;rw[I,M,d,iy,if_neg yD,iy,if_neg yD];exact fq G rfl
  ·have J:A.not (A.eq k 0)=false:=by assumption
   rw[Y,Z]at J;have h4:k=0:=yU J;rw[if_neg (by rw[h4];decide)]at d;exact⟨j+1,⟨yO,d⟩,yO,yc⟩
 have h5:j=m:=gY X.a e h1;have O:E2=([],0):=by rw[d,h5,u,ch];rfl
 clear d h1 h5 H F;cbv;refine h [] 0 ?_;rw[I,M,O];rfl
end
end Go.VC.cc
namespace Go.VC
open Go
section
section
variable {P:Program}{tt:TypeId->Option TI}{f:FuncId}{args:List PV}{K:PV->List Ob->Prop}
def FC.Pj{e:TypeId}(g:∀args w,(callFunc f args).run P w= .ok (.enter f args) w)
 (h:∀E Pp w vals,WR tt E Pp [] w->eM tt E Pp vals args->Calls P f ⟨vals⟩ w λe' w'=>e'= .returned (.slice none 0 0)/\w'=w) (hK:K (.row e 0) [.row e (.list []) true]):FC P tt f [] args K:=by
 intro E Pp w vals c k;refine .inl ⟨g _ _,(h E Pp w vals c k).mono ?_⟩;rintro e' w' ⟨rfl,rfl⟩;have d:E=[]:=cm (by have:=c.len;simpa using this);subst d;refine⟨_,[.row0],Pp,[.row e (.list []) true],.row e 0,rfl,λi x n=>yE n,λ_ _ h=>h,?_,.row0 _ _ rfl,hK,Fr.refl _ _,λ_ _ h=>.inl h,?_⟩
 ·refine⟨rfl,c.pi,?_,?_,c.gl⟩
  ·intro i o a hl;cases i with
   |succ i=>simp at a
   |zero=>simp at a;subst a;exact⟨_,rfl,rfl⟩
  ·intro i j oi oj ri rj b m l _ _ _ _ _ _;cases i<;>cases j<;>simp at m l ⊢
 ·intro i o ri b a hl hr hb;cases i with
  |succ i=>simp at a
  |zero=>simp at hr;subst hr;simp[RI.cZ]at hb
end
def IL(i:IF):List DE->S×Int
 |[]=>([],0)
 |x::l=>if(CN i++xn i++Bi i).contains x.name=false then(x.name,6)else if 65536<x.note.length then(x.name,7)else IL i l
def yJ(i:IF):S×Int:=IL i i.deprecated
end
end Go.VC
namespace Go.VC.cc
open Go Go.VC Go.Proofs
section
variable {K:PV->List Ob->Prop}
def aaK{n:Nat}(u:n<=4294967296)(h:K (.row 9 0) [.row 9 (.list []) true]):FT 304 [] [.lj,.int .i64 (bj n)] K:=by
 by_cases h0:n=0
 ·subst h0;refine FC.Pj (enters_of Tryz.func304 (by kernel_rfl) rfl) (λE Pp w vals q b=>?_) h;cases b with|cons v1 _ _ _ h1 b=>cases b with|cons v2 _ _ _ J b=>
  cases b;cases h1;cases J;refine(Any8.slices_Grow_room Tryz.ER none 0 0 0 w yD yD yD yD).mono ?_;rintro e w' ⟨rfl,rfl⟩;exact⟨rfl,rfl⟩
 ·refine FC.newRow (e:=9) (rows:=[]) (enters_of Tryz.func304 (by kernel_rfl) rfl) (λE Pp w vals q b=>?_) h;cases b with|cons v1 _ _ _ h1 b=>cases b with|cons v2 _ _ _ J b=>
  cases b;cases h1;cases J;obtain⟨ti,j,k,c,m⟩:∃ti,tt 9=some ti/\ti.bP=[.str]/\ti.bytes=16/\ti.agg=false:=⟨_,rfl,rfl,rfl,rfl⟩;obtain⟨p,z,_,o,hs,hb,hz,s,g,_⟩:=(fD 9 ti j).info;have d:p.size=1:=by rw[hs,k];rfl
  have l:z.cells.size=1:=by rw[g.2 m];rfl
  refine(Any8.slices_Grow_grow Tryz.ER p z o hz (by rw[d];decide) none 0 0 n [] w yD yO ?_ yO yS (λ_=>rfl) (λa ha=>yC ha)).mono ?_
  ·rw[hb,c];omega
  rintro e w' ⟨rfl,rfl⟩;refine⟨_,1,_,rfl,rfl,bw _,?_,?_⟩
  ·rw[Np];show grownCap w (0+n) 0 9*1<=Oe _;have r:=grownCap_ge w (0+n) 0 9;show grownCap w (0+n) 0 9*1<=Oe ([].toArray++Builtin.zeroCells z.cells (0+n-0)++Builtin.zeroCells z.cells (grownCap w (0+n) 0 9-(0+n)));generalize grownCap w (0+n) 0 9=G at r ⊢;simp only[Array.size_append,Builtin.zeroCells,DA,Array.size_range,l];simp;omega
  ·intro i row t;simp at t
def U8:dH:={tt:=tt,n:=36,own:=[6],live:=[304]}
def aaV{b:List (List S)}{d:D}(p:d=bt Rg b)(hl:b.length<=16)(B:∀l∈b,l.length<=1048576)(h:∀r,r=bt cT b.flatten->K (.row 9 0) [.row 9 r true]):
 FT 284 [] [.lst 68 d] K:=by
 refine eo U8 Tryz.func284 λA C L X=>?_;obtain⟨i,m,a⟩:=lenOf p;cbv;refine lu X (λj=>j.1<=i/\j.2=((b.take j.1).map jJ).sum/\j.2<=1048576*j.1) (λj=>i-j.1) (0,0) ⟨bw _,rfl,bw _⟩ (λ(j:Nat×Nat)=>[(11,.int .i64 j.1),(3,.int .i64 j.2)]) ?_;rintro⟨j,k⟩ ⟨I,hk,z⟩;simp only at I hk z;have G:A.lt (bj k) 0=false:=by rw[X.a];simp only[SD];omega
 cbv;constructor<;>intro h1
 ·have h5:j<b.length:=lY X.a a h1;have w:=iX X.a p h5;have t:=jX X.a h5;have c:A.cell d (bj j) 0=bt cT b[j]:=by rw[cellAt X.a p h5];rfl
  have e:A.len (A.cell d (bj j) 0)=bj b[j].length:=by rw[c,X.a,dp];rfl
  have N:=B _ (br h5);have g:A.add (bj k) (A.len (A.cell d (bj j) 0))=bj (k+b[j].length):=by rw[e,X.a];rfl
  have x:A.inr .i64 (A.add (bj k) (A.len (A.cell d (bj j) 0))):=by rw[g,X.a];simp only[SD];omega
  have o:A.lt (A.add (bj k) (A.len (A.cell d (bj j) 0))) 0=false:=by rw[g,X.a];simp only[SD];omega
  cbv;repeat' (first|apply bk|exact zf|(intro J;first|exact yB o J|cbv)|apply bB)
  any_goals first|exact w|exact t|exact x
  obtain⟨F,v⟩:∃F,F=k+b[j].length:=⟨_,rfl⟩;rw[<- v]at g;refine⟨(j+1,F),⟨yP,?_,yP⟩,yP,?_⟩
  ·simp only;rw[cj h5,bS,dO,<-hk,v];simp
  exact yc;all_goals exact g
 have h5:j=i:=gY X.a a h1;have y:k<=4294967296:=yO;have n:k=(b.map jJ).sum:=by rw[hk,h5,m,bz]
 clear hk h1;cbv;refine X.call (aaK y ?_);cbv;refine lP X (λj=>j.1<=i/\j.2=bt cT (b.take j.1).flatten) (λj=>i-j.1) (0,.list []) ⟨bw _,rfl⟩ [0] (λ(j:Nat×D)=>⟨[(27,.int .i64 j.1),(26,.int .i64 (A.len d)),(25,.lst 68 d),(6,.row 9 0)],[.row 9 j.2 true]⟩) ?_;rintro⟨q,r⟩ ⟨H,hr⟩;simp only at H hr;cbv;constructor<;>intro h1
 ·have h5:q<b.length:=lY X.a a h1;have w:=iX X.a p h5;have t:=jX X.a h5;have c:A.cell d (bj q) 0=bt cT b[q]:=by rw[cellAt X.a p h5];rfl
  have e:A.len (A.cell d (bj q) 0)=bj b[q].length:=by rw[c,X.a,dp];rfl
  have u:(b.take (q+1)).flatten=(b.take q).flatten++b[q]:=by rw[cj h5,List.flatten_append];simp
  have E:((b.take (q+1)).flatten).length<=k:=by
   rw[n,List.length_flatten];have:(b.map jJ).sum=((b.take (q+1)).map jJ).sum+((b.drop (q+1)).map jJ).sum:=by rw[<- dO,<-bS,cV]
   omega
  have s:A.app r (A.cell d (bj q) 0)=bt cT (b.take (q+1)).flatten:=by rw[u,c,X.a,hr];exact cD
  have M:A.gr (A.add (A.len r) (A.len (A.cell d (bj q) 0))) 4294967296:=by rw[e,X.a,hr,dp];rw[u,bp]at E;simp only[SD];omega
  refine p1 ?_;exact⟨(q+1,_),⟨yP,s⟩,yP,[0],rfl,yc⟩
 have h5:q=i:=gY X.a a h1;rw[h5,m,bz]at hr;cbv;exact h r hr
def abb{i:IF}(p:i.fit){de:D}{z:S}{c1 c2 w e:D}(hc:lQ i z c1 c2 w e)(h:∀(s:S)(r:Int),(s,r)=yJ i->K (.tup [.str s,.int .i64 r]) []):
 FT 249 [] [qY de z c1 c2 w e] K:=by
 refine en Zw Tryz.func249 λA C L X=>?_;have M:(CN i).length<=1048576:=by rw[CN,bA];exact p.nt
 have I:(xn i).length<=1048576:=by rw[xn,bA];exact p.nv
 have O:(Bi i).length<=1048576:=by rw[Bi,bA];exact p.na
 cbv;refine X.call (Tv p hc λd0 E d2 F y u q G=>?_);obtain⟨c,d⟩:∃n,n=i.deprecated.length:=⟨_,rfl⟩;have a:Std.len e=bj c:=by rw[hc.2.2.2.2,dp,d];rfl
 cbv;refine X.Mq (λ(j:Nat)=>⟨[(17,.int .i64 j),(16,.int .i64 (A.len e)),(15,.lst 213 e),(5,.box 1 0),(4,.du [.lst 9 d0,.lst 9 E,.lst 9 d2,.lst 9 F] 0),(1,.box 0 0)],[.box [.lst 97 de,.str z,.lst 136 c1,.lst 91 c2,.lst 210 w,.lst 213 e],.box [.cu 185 [],.cu 263 [],.cu 295 [],.cu 295 []]]⟩) (λj=>j<=c/\yJ i=IL i (i.deprecated.drop j)) (λj=>c-j) 0 ⟨bw _,rfl⟩ ?_ ?_
 ·exact⟨[],[1],[0,2],rfl,yc⟩
 rintro j ⟨N,g⟩;cbv;constructor<;>intro h1
 ·have h5:j<i.deprecated.length:=lY X.a a h1;have B:=Nn X.a hc.2.2.2.2 h5;have H:=iX X.a hc.2.2.2.2 h5;have v:A.inr .i64 (A.add (bj j) 1):=by rw[X.a];exact fN h5 (by have:=p.nd;omega)
  have m:A.lit [[d0],[E],[d2]]=bt Rg [CN i,xn i,Bi i]:=by rw[X.a,y,u,q];rfl
  have o:∀l∈[CN i,xn i,Bi i],l.length<=1048576:=by intro l hl;simp at hl;rcases hl with rfl|rfl|rfl<;>assumption
  rw[bJ h5,IL]at g;refine p1 ?_;refine X.call (aaV m (show (3:Nat)<=16 by decide) o λr hr=>?_);have hr:r=bt cT (CN i++xn i++Bi i):=by rw[hr];simp
  have x:(CN i++xn i++Bi i).length<=4294967295:=yL;have Y:=fg X.a;have k:A.lt 65536 (A.fe (A.bG (A.cell e (bj j) 1)))=decide (65536<i.deprecated[j].note.length):=by rw[B.2,X.a];show decide ((65536:Int)<(i.deprecated[j].note.length:Int))=_;rw[decide_eq_decide];omega
  have t:A.bG (A.cell e (bj j) 0)=i.deprecated[j].name:=B.1;cbv;refine X.call (Rr hr x λb hb=>?_);have hb:b=(CN i++xn i++Bi i).contains i.deprecated[j].name:=by rw[<- t];exact hb
  rw[show List.elem i.deprecated[j].name (CN i++xn i++Bi i)=b from hb.symm]at g;clear hb;cbv;repeat' (first|apply bk|exact zf|(intro J;cbv)|apply bB)
  any_goals exact v
  ·have J:A.not b=true:=yA;rw[Y]at J;rw[if_pos (yU J)]at g;refine h _ 6 ?_;rw[g];exact fq t rfl
  ·have J:A.not b=false:=yA;have h3:A.lt 65536 (A.fe (A.bG (A.cell e (bj j) 1)))=true:=yA;rw[Y]at J;rw[k]at h3;rw[if_neg (yU J),if_pos (of_decide_eq_true h3)]at g;refine h _ 7 ?_;rw[g];exact fq t rfl
  ·have J:A.not b=false:=yA;have h3:A.lt 65536 (A.fe (A.bG (A.cell e (bj j) 1)))=false:=yA;rw[Y]at J;rw[k]at h3;rw[if_neg (yU J),if_neg (of_decide_eq_false h3)]at g;exact⟨j+1,⟨yO,g⟩,yO,[],[],[0,1],rfl,yc⟩
 ·have h5:j=c:=gY X.a a h1;cbv;refine h [] 0 ?_;rw[g,h5,d,ch];rfl
end
end Go.VC.cc
