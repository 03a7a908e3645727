/- Part 7 of the common texts. -/
import Derived.Test.YtflmompnagpjeaaGreatDoorPart6
set_option linter.all false
set_option maxRecDepth 100000
set_option maxHeartbeats 16000000
open And renaming intro→bq
open Array renaming size→Nr,size_map→Cy
open Bool renaming and_false→iI,eq_iff_iff→cM,not_false→tg,not_not→Ik,or_true→wX,true_and→ka
open Int renaming natCast_nonneg→dS,ofNat→bk,ofNat_eq_natCast→bz,ofNat_lt→lz,toNat_natCast→ej
open Int.ofNat renaming inj→zV
open List renaming all_append→rX,all_cons→vC,all_eq_false→pE,any_cons→E8,append_assoc→bI,cons_append→dP,drop_eq_getElem_cons→bF,drop_length→cd,eq_nil_of_length_eq_zero→bY,find?_cons→cH,flatMap_append→eD,flatMap_cons→fP,getD→cc,getElem?_eq_some_iff→dx,getElem?_of_mem→fF,getElem_mem→bu,length→iS,length_append→bt,length_cons→bM,length_map→bL,length_nil→bX,length_singleton→dJ,length_take→cJ,map_append→cj,map_congr_left→gw,map_cons→bJ,map_nil→hZ,map_take→vB,mem_append→bG,mem_append_left→dF,mem_append_right→dI,mem_cons→bN,mem_filter→kH,mem_flatMap→dp,mem_map→bP,mem_of_find?_eq_some→eb,mem_range→te,mem_singleton→df,nil_append→jg,nodup_append→cV,nodup_cons→cw,not_mem_nil→zx,pairwise_cons→fD,pairwise_iff_getElem→hJ,perm_ext_iff_of_nodup→n1,range→fb,singleton_append→JK,sum_append→dQ,sum_cons→cm,sum_nil→nI,take_append_drop→cX,take_length→bD,take_of_length_le→db
open List.Pairwise renaming imp→rY
open List.Perm renaming eq_of_pairwise→zU
open Nat renaming add_mul→c9,le_refl→cg,le_trans→bQ,lt_of_le_of_lt→jd,one_mul→pN,zero_le→bB
open Ne renaming symm→dy
open Option renaming getD_none→wW,getD_some→eR,isSome_iff_exists→eQ,map_some→cr
open Option.some renaming inj→iH
open Or renaming inl→bE
open Prod renaming ext→dR
namespace Go.VC
inductive wV (i:IF):S->S->Prop
 |one {a b:S} (h:Gt i a b):wV i a b
 |more {a b c:S} (h:wV i a b) (k:Gt i b c):wV i a c
def wV.trans{i:IF}{a b c:S}(h:wV i a b)(k:wV i b c):wV i a c:=by
 induction k with
 |one e=>exact .more h e
 |more _ k' d=>exact .more d k'
def Jb{i:IF}{m n e:S}(h:iQ i m n=some e):(ta i e).isSome=true:=by
 unfold iQ at h;split at h
 ·split at h
  ·rename_i hs;cases h;exact hs
  ·cases h
 ·split at h
  ·rename_i hs;cases h;exact hs
  ·cases h
 ·cases h
def H0{i:IF}{a b:S}(h:Gt i a b):(ta i b).isSome=true:=by obtain⟨u,_,hu⟩:=h;exact Jb hu
def wV.has{i:IF}{a b:S}(h:wV i a b):(ta i b).isSome=true:=by
 cases h with
 |one h=>exact H0 h
 |more _ k=>exact H0 k
def QA{i:IF}{n:S}(h:(ta i n).isSome=true):n∈i.types.map (·.name):=by obtain⟨x,a⟩:=eQ.1 h;have h1:=eb a;have J:=List.find?_some a;simp at J;exact bP.2 ⟨x,h1,J⟩
def qv{i:IF}{L:List S}(a:L.Nodup)(h:∀s∈L,(ta i s).isSome=true):L.length<=i.types.length:=by have:=fv a λs hs=>QA (h s hs);simpa using this
structure KS (m:List (S×Bool)) (p:S->Prop):Prop where
 nd:(m.map (·.1)).Nodup
 mem:∀s,s∈m.map (·.1)↔p s
 tr:∀x∈m,x.2=true
def qa(i:IF)(n:S):Nat:=(lC i n).length
def lE(i:IF):Nat:=(i.types.map λx=>x.lower.size+x.upper.size).sum
def Ir(l:List TE)(n:S):(((l.find? λx=>x.name==n).getD TE.zero).lower.gS++((l.find? λx=>x.name==n).getD TE.zero).upper.gS).length=((l.find? λx=>x.name==n).map λx=>(x.lower.gS++x.upper.gS).length).getD 0:=by
 cases l.find? λx=>x.name==n with
 |some x=>rfl
 |none=>rw[wW,wY];rfl
def CZ:∀(l:List TE)(f:TE->Nat)(L:List S),L.Nodup->(L.map λn=>((l.find? λx=>x.name==n).map f).getD 0).sum<=(l.map f).sum
 |[],f,L,_=>by
  have:∀L:List S,(L.map λn=>((([]:List TE).find? λx=>x.name==n).map f).getD 0).sum=0:=by
   intro L;induction L with
   |nil=>rfl
   |cons s L d=>rw[bJ,cm,d];rfl
  rw[this];exact bB _
 |x::l,f,L,c=>by
  have d:=CZ l f L c
  have key:(L.map λn=>(((x::l).find? λy=>y.name==n).map f).getD 0).sum<=f x+(L.map λn=>((l.find? λy=>y.name==n).map f).getD 0).sum:=by
   clear d;induction L with
   |nil=>simp
   |cons s L b=>
    rw[cw]at c;have b:=b c.2;simp only[bJ,cm];by_cases hs:x.name=s
    ·have hb:(x.name==s)=true:=yU hs
     have a:∀n∈L,(((x::l).find? λy=>y.name==n).map f).getD 0=((l.find? λy=>y.name==n).map f).getD 0:=by
      intro n g;have:(x.name==n)=false:=by rw[beq_eq_false_iff_ne];intro e;exact c.1 (by rw[<- hs,e];exact g)
      rw[cH,this]
     rw[gw a,cH,hb];simp only[cr,eR];omega
    ·have hb:(x.name==s)=false:=yU hs;rw[cH,hb];simp only;omega
  simp only[bJ,cm];omega
def CQ(i:IF){L:List S}(d:L.Nodup):(L.map (qa i)).sum<=lE i:=by
 have h1:(L.map (qa i))=L.map λn=>((i.types.find? λx=>x.name==n).map λx=>(x.lower.gS++x.upper.gS).length).getD 0:=by refine gw λn _=>?_;exact Ir i.types n
 rw[h1];refine bQ (CZ i.types _ L d) ?_;unfold lE;generalize i.types=l;induction l with
 |nil=>simp
 |cons x l c=>have a:=kf x.lower;have b:=kf x.upper;simp only[bJ,cm,bt]at c ⊢;omega
def CR(i:IF)(n:S):qa i n<=lE i:=by have:=CQ i (L:=[n]) yS;simpa using this
structure s7 (i:IF) (n:S) (L W:List S):Prop where
 nd:L.Nodup
 CA:∀s∈L,wV i n s
 P7:∀s∈W,wV i n s
 st:∀e,Gt i n e->e∈L\/e∈W
 cl:∀s∈L,∀e,Gt i s e->e∈L\/e∈W
 len:W.length<=qa i n+(L.map (qa i)).sum
def iv.dir{i:IF}{n:S}{l:List S}(h:iv i (lC i n) l):∀e,e∈l↔Gt i n e:=h.1
def s7.start{i:IF}{n:S}{l:List S}(h:iv i (lC i n) l):s7 i n [] l:=⟨yS,yS,λs hs=>.one ((h.dir s).1 hs),λe he=>.inr ((h.dir e).2 he),yS,by simpa[qa]using h.2⟩
def s7.old{i:IF}{n s:S}{L W:List S}(h:s7 i n L (s::W))(hs:s∈L):s7 i n L W:=by
 refine⟨h.nd,h.CA,λx a=>h.P7 x (by simp[a]),λe he=>?_,λx a e he=>?_,by have:=h.len;simp at this;omega⟩
 ·rcases h.st e he with h1|h1
  ·exact .inl h1
  ·rcases bN.1 h1 with rfl|h1
   ·exact .inl hs
   ·exact .inr h1
 ·rcases h.cl x a e he with h1|h1
  ·exact .inl h1
  ·rcases bN.1 h1 with rfl|h1
   ·exact .inl hs
   ·exact .inr h1
def s7.new{i:IF}{n s:S}{L W l:List S}(h:s7 i n L (s::W))(hs:s∉L)(hl:iv i (lC i s) l):s7 i n (L++[s]) (W++l):=by
 have hr:=h.P7 s yS;refine⟨?_,?_,?_,?_,?_,?_⟩
 ·rw[cV];exact⟨h.nd,yS,λa ha b hb=>by simp at hb;subst hb;exactλe=>hs (e▸ha)⟩
 ·intro x c;rcases bG.1 c with c|c
  ·exact h.CA x c
  ·simp at c;subst c;exact hr
 ·intro x c;rcases bG.1 c with c|c
  ·exact h.P7 x (by simp[c])
  ·exact .more hr ((hl.dir x).1 c)
 ·intro e he;rcases h.st e he with h1|h1
  ·exact .inl (by simp[h1])
  ·rcases bN.1 h1 with rfl|h1
   ·exact .inl yS
   ·exact .inr (by simp[h1])
 ·intro x c e he;rcases bG.1 c with c|c
  ·rcases h.cl x c e he with h1|h1
   ·exact .inl (by simp[h1])
   ·rcases bN.1 h1 with rfl|h1
    ·exact .inl yS
    ·exact .inr (by simp[h1])
  ·simp at c;subst c;exact .inr (dI _ ((hl.dir e).2 he))
 ·have a:=h.len;have b:=hl.2;simp only[bM,bt,cj,dQ,bJ,hZ,cm,nI]at*;unfold qa at*;omega
def s7.fin{i:IF}{n:S}{L:List S}(h:s7 i n L []):∀s,s∈L↔wV i n s:=by
 intro s;refine⟨h.CA s,λhr=>?_⟩;induction hr with
 |one a=>rcases h.st _ a with h1|h1;exact h1;simp at h1
 |more _ a b=>rcases h.cl _ b _ a with h1|h1;exact h1;simp at h1
def s7.ch{i:IF}{n:S}{L W:List S}(h:s7 i n L W):L.length<=i.types.length:=qv h.nd λs hs=>(h.CA s hs).has
def s7.Lm{i:IF}{n:S}{L W:List S}(h:s7 i n L W):W.length<=2*lE i:=by have a:=h.len;have b:=CQ i h.nd;have c:=CR i n;omega
end Go.VC
namespace Go.VC.cG
open Go Go.VC Go.Proofs
def TL:ea:={tt:=tt,n:=32,own:=[16]}
def Yg{i:IF}(hi:i.ok)(fh:∀x∈i.types,x.lower.size<=1048576/\x.upper.size<=1048576)(aj:lE i<=1048576){m:List (S×TE)}(hm:TM m i){d dT:D}(hd:d=bA dC [i])(hT:dT=bA (fx fY) m){n:S}{K:PV->List Ob->Prop}
 (h:∀k r,r=bA cO k->KS k (wV i n)->K (.mp 0) [.map .str 4 r]):
 FT 314 [] [.agg [.lst 97 d,.dmp 136 dT,.undef],.str n] K:=by
 refine eo TL Tryz.func314 λA C L X=>?_;have Y:=fz X.a;cbv;refine X.call (Vs hi fh hm hd hT λl0 r0 aa R=>?_);cbv;refine lP X (λy=>s7 i n y.1.1 y.1.2/\y.2.2.1=bA encS y.1.2/\∃k,y.2.1=bA cO k/\KT k y.1.1) (λy=>y.1.2.length+(i.types.length-y.1.1.length)*(lE i+1)) (([],l0),.list [],r0,true) ⟨.start R,aa,[],rfl,KT.nil⟩ [0,1,2] (λ(y:(List S×List S)×D×D×Bool)=>⟨[(6,.row 9 2),(5,.mp 1),(2,.box 0 0)],[.box [.lst 97 d,.dmp 136 dT,.undef],.map .str 4 y.2.1,.row 9 y.2.2.1 y.2.2.2]⟩) ?_;rintro⟨⟨t,W⟩,P,g,wr⟩ ⟨w,p,k,o,hk⟩;simp only at w p o hk;have u:=w.Lm;have ak:=w.ch;obtain⟨ah,c,e⟩:=lenOf p;cbv;constructor<;>intro h1
 ·have j:A.lt 0 (A.len g)=true:=h1
  match W,p,c,w,u with
  |[],p,c,w,u=>exfalso;obtain rfl:=X.a;rw[e,c]at j;cases j
  |s::W,p,c,w,u=>
  have ac:A.idx 0 (A.len g):=by rw[X.a,p];exact cY (i:=0) yS
  have U:A.bH (A.cell g 0 0)=s:=tv X.a p (i:=0) yS;have B:A.asBool (A.fc P (.str (A.bH (A.cell g 0 0))) 0)=decide (s∈t):=by rw[U,X.a,o];exact ux hk _
  have N:A.lU P (.str (A.bH (A.cell g 0 0))) [.bool true]=bA cO (oO k s):=by rw[U,X.a,o];exact qT
  have G:A.gh 1 (A.len g):=by rw[X.a,p,da];exact⟨yD,yQ⟩
  have E:A.part g 1 (A.len g)=bA encS W:=by rw[X.a,p,da];have:=oQ (f:=encS) (l:=s::W) (a:=1) (b:=(s::W).length);simpa using this
  simp only[bM]at u;clear h1 j;cbv;repeat' (first|apply bq|exact zf|(intro J;cbv)|apply bE)
  any_goals exact ac
  ·have e1:A.not (A.asBool (A.fc P (.str (A.bH (A.cell g 0 0))) 0))=true:=yA;rw[Y,B]at e1;have hs:s∉t:=yU e1;refine X.call (Vs hi fh hm hd hT λl r hr hl=>?_);have I:iv i (lC i s) l:=U▸hl;have q:=w.new hs I;have F:=q.Lm;have H:=q.ch;have ai:=I.2;have T:=CR i s;simp only[qa]at T;simp only[bt,dJ]at F H;have al:A.gh (A.add (A.len g) (A.len r)) 4294967296:=by rw[X.a,p,hr,da,da,fy];refine⟨yQ,yQ⟩
   have z:A.app g r=bA encS (s::(W++l)):=by rw[X.a,p,hr];exact cB
   have ae:A.gh 1 (A.len (A.app g r)):=by rw[z,X.a,da];exact⟨yD,yQ⟩
   have v:A.part (A.app g r) 1 (A.len (A.app g r))=bA encS (W++l):=by rw[z,X.a,da];have:=oQ (f:=encS) (l:=s::(W++l)) (a:=1) (b:=(s::(W++l)).length);rw[List.drop_one,List.tail_cons,db yS]at this;exact this
   have O:(W++l).length+(i.types.length-(t++[s]).length)*(lE i+1)<(s::W).length+(i.types.length-t.length)*(lE i+1):=by have:i.types.length-t.length=(i.types.length-(t.length+1))+1:=yO;have e2:(t++[s]).length=t.length+1:=yS;rw[e2,this,c9,pN,bt,bM];omega
   have Q:=hk.add s;refine p1 ?_;exact⟨((t++[s],W++l),_,_,false),⟨q,v,_,N,Q⟩,O,[0,1,2],rfl,yc⟩
  any_goals exact G
  ·have e1:A.not (A.asBool (A.fc P (.str (A.bH (A.cell g 0 0))) 0))=false:=yA;rw[Y,B]at e1;have hs:s∈t:=yU e1;exact⟨((t,W),_,_,false),⟨w.old hs,E,k,o,hk⟩,by simp only[bM];omega,[0,1,2],rfl,yc⟩
 ·have j:A.lt 0 (A.len g)=false:=h1;have V:W=[]:=by obtain rfl:=X.a;rw[e,im]at j;have:=of_decide_eq_false j;exact bY (by simp only[bz]at this;omega)
  subst V;have M:=w.fin;cbv;exact h k P o ⟨hk.nd,λs=>(hk.mem s).trans (M s),hk.tr⟩
end Go.VC.cG
namespace Go.VC
def zR(m:List (S×TE))(l:List TE):List (S×TE):=l.foldr (λx m=>iP x.name x m) m
def GL{m:List (S×TE)}(l:List TE)(h:(m.map (·.1)).Nodup):((zR m l).map (·.1)).Nodup:=by
 induction l with
 |nil=>exact h
 |cons x l a=>exact rn a
def Jz{l:List TE}{n:S}:fJ (zR [] l) n=l.find? λx=>x.name==n:=by
 induction l with
 |nil=>rfl
 |cons x l a=>
  show fJ (iP x.name x (zR [] l)) n=_;rw[lh,cH];by_cases h:n=x.name
  ·rw[if_pos h];simp[h]
  ·rw[if_neg h];have:(x.name==n)=false:=by rw[beq_eq_false_iff_ne];exactλe=>h e.symm
   rw[this];exact a
def MG(l:List TE):(zR [] l).length<=l.length:=by
 induction l with
 |nil=>exact cg 0
 |cons x l a=>show (iP x.name x (zR [] l)).length<=_;have:=N8 (m:=zR [] l) (k:=x.name) (v:=x);simp only[bM];omega
def TM.of(i:IF):TM (zR [] i.types) i:=⟨GL _ yS,λn=>Jz⟩
def rT(q:D):List D:=[q]
structure UM (mu:List (S×D)) (i:IF) (p:S->Prop):Prop where
 nd:(mu.map (·.1)).Nodup
 mem:∀s,s∈mu.map (·.1)↔p s
 get:∀s q,fJ mu s=some q->∃k,q=bA cO k/\KS k (wV i s)
def UM.nil(i:IF):UM [] i (λ_=>False):=⟨yS,yS,λs q h=>by simp[fJ]at h⟩
def UM.put{mu:List (S×D)}{i:IF}{p:S->Prop}(h:UM mu i p){s:S}{k:List (S×Bool)}(hk:KS k (wV i s)){p':S->Prop}(b:∀x,p' x↔x=s\/p x):UM (iP s (bA cO k) mu) i p':=by
 refine⟨rn h.nd,λx=>by rw[Ds,b,h.mem],λx q a=>?_⟩;rw[lh]at a;split at a
 ·rename_i e;subst e;cases a;exact⟨k,rfl,hk⟩
 ·exact h.get x q a
end Go.VC
namespace Go.VC.cG
open Go Go.VC Go.Proofs
section
variable {d:D}{K:PV->List Ob->Prop}
def Yh(h:K (.cy 331 [.cP [.lst 136 d] 0]) []):FT 313 [] [.lst 136 d] K:=by refine en (cf 4) Tryz.func313 λA C L X=>?_;cbv;exact h
def TH:ea:={tt:=tt,n:=19,live:=[331],n0:=4}
def Yc{q k:Code}{f o e:D}{l:List TE}(s:d=bA fY l)(hl:l.length<=4294967295){m:List (S×TE)}(hT:e=bA (fx fY) m)
 (W:∀(x:TE)(m:List (S×TE))(e:D)(j:Int)(Q:S)(c1:D)(c2:Int)(I P:S)(M O:D)(H:Int)(F G:S)(p n:D)(T:PV->List Ob->Prop),x∈l->o4 x Q c1 c2 I P M O H F G p n->e=bA (fx fY) m->
   (∀r,r=bA (fx fY) (iP x.name x m)->T (.bl true) [.loop 36 [15,16] q k [(3,.box 1 0)] .ready,.box [.lst 97 f,.mp 2,.mp 3],.map .str 136 r,.map .str 80 o])->
   YC Tryz.prog tt [.loop 36 [15,16] q k [(3,.box 1 0)] .ready,.box [.lst 97 f,.mp 2,.mp 3],.map .str 136 e,.map .str 80 o] [.int .i64 j,tn Q c1 c2 I P M O H F G p n] T)
 (h:∀r,r=bA (fx fY) (zR m l)->K (.tup []) [.loop 36 [15,16] q k [(3,.box 1 0)] .ready,.box [.lst 97 f,.mp 2,.mp 3],.map .str 136 r,.map .str 80 o]):
 FT 331 [.loop 36 [15,16] q k [(3,.box 1 0)] .ready,.box [.lst 97 f,.mp 2,.mp 3],.map .str 136 e,.map .str 80 o] [.j9 0,.cP [.lst 136 d] 0] K:=by
 refine el TH Tryz.func331 λA C L X=>?_;obtain⟨V,N,t⟩:=lenOf s;have c:A.not true=false:=yX;have b:A.len d=bk l.length:=iW X.a s;have g:A.inr .i64 (A.sub (A.len d) 1):=by rw[b,X.a,fu,pA];simp only[bz];omega
 have v:A.sub (A.len d) 1=bk l.length-1:=by rw[b,X.a];rfl
 cbv;refine .inl ⟨g,λ_=>?_⟩;cbv;refine lP X (λy=>y.1<=l.length/\y.2.1=bk y.1-1/\y.2.2=bA (fx fY) (zR m (l.drop y.1))) (λy=>y.1) (l.length,_,e) ⟨cg _,v,by simp only;rw[cd];exact hT⟩ [0,1,2,3] (λ(y:Nat×Int×D)=>⟨[(3,.int .i64 y.2.1),(1,.cP [.lst 136 d] 0),(0,.j9 0)],[.loop 36 [15,16] q k [(3,.box 1 0)] .ready,.box [.lst 97 f,.mp 2,.mp 3],.map .str 136 y.2.2,.map .str 80 o]⟩) ?_;rintro⟨i,z,R⟩ ⟨u,hz,a⟩;simp only at u hz a
 match i,u,hz,a with
 |0,u,hz,a=>
  have hc:A.le 0 z=false:=by rw[X.a,hz];rfl
  cbv;repeat' (first|apply bq|exact zf|(intro J;first|exact yB hc J|cbv)|apply bE)
  exact h R a
 |j+1,u,hz,a=>
  have hz:z=bk j:=by rw[hz];simp only[bz];omega
  subst hz;have hc:A.le 0 (bk j)=true:=by rw[X.a,lL];exact decide_eq_true (dS _)
  have h5:j<l.length:=yO;have U:=mz X.a s h5;have E:=iX X.a s h5;have B:A.inr .i64 (A.sub (bk j) 1):=by rw[X.a,fu,pA];simp only[bz];omega
  have w:A.sub (bk j) 1=bk j-1:=yX;cbv;repeat' (first|apply bq|exact zf|(intro J;first|exact yB hc J|cbv)|apply bE)
  any_goals exact E
  refine X.round (W l[j] _ R _ _ _ _ _ _ _ _ _ _ _ _ _ _ (bu h5) U a λr hr=>?_);cbv;repeat' (first|apply bq|exact zf|(intro J;first|exact yB c J|cbv)|apply bE)
  any_goals exact B
  refine⟨(j,_,r),⟨yP,w,?_⟩,yP,[0,1,2,3],rfl,?_⟩
  ·simp only;rw[hr,bF h5];rfl
  exact yc
end
end Go.VC.cG
namespace Go.VC
section
variable {α:Type}{d:List Int}
def AB{m:List (S×α)}{dft:S×α}(hb:∀j∈d,0<=j/\j<m.length)(ha:∀j:Nat,j<m.length->(j:Int)∈d)(s:S):s∈d.map (λj=>(m.getD j.toNat dft).1)↔s∈m.map (·.1):=by
 constructor
 ·intro h;obtain⟨j,a,rfl⟩:=bP.1 h;obtain⟨h0,h1⟩:=hb j a;have hl:j.toNat<m.length:=yO;refine bP.2 ⟨m[j.toNat],bu hl,?_⟩;simp[cc,hl]
 ·intro h;obtain⟨x,b,rfl⟩:=bP.1 h;obtain⟨k,hk⟩:=fF b;have hl:k<m.length:=(dx.1 hk).1;refine bP.2 ⟨(k:Int),ha k hl,?_⟩;simp[cc,hk]
def P6{m:List α}(fR:d.Nodup)(hb:∀j∈d,0<=j/\j<m.length){i:Nat}(l:i<m.length)(n:(i:Int)∉d):d.length<m.length:=by
 have h1:(d.map Int.toNat).Nodup:=by refine List.pairwise_map.2 (List.Pairwise.imp_of_mem ?_ fR);intro a b ha f g e;have:=hb a ha;have:=hb b f;exact g yO
 have J:(Int.toNat (i:Int)::d.map Int.toNat).Nodup:=by rw[cw];refine⟨λh=>?_,h1⟩;obtain⟨j,c,e⟩:=bP.1 h;have:=hb j c;exact n (by rw[show (i:Int)=j by omega];exact c)
 have h3:=fv (m:=fb m.length) J λx k=>by
  rw[te];rcases bN.1 k with rfl|k
  ·simpa using l
  ·obtain⟨j,c,rfl⟩:=bP.1 k;have:=hb j c;omega
 simp at h3;omega
end
end Go.VC
namespace Go.VC.cG
open Go Go.VC Go.Proofs
def TQ:ea:={tt:=tt,n:=36,n0:=4,Cz:=true}
def Yq{i:IF}(hi:i.ok)(fh:∀x∈i.types,x.lower.size<=1048576/\x.upper.size<=1048576)(ac:lE i<=1048576){N:S}{c1 c2 H M:D}{K:PV->List Ob->Prop}(hx:kn i N c1 c2 H M)
 (h:∀m mu E g T,TM m i->UM mu i (λs=>(ta i s).isSome=true)->E=bA dC [i]->g=bA (fx fY) m->T=bA (fx rT) mu->K (.agg [.lst 97 E,.dmp 136 g,.dmp 80 T]) []):
 FT 301 [] [nR N c1 c2 H M] K:=by
 have aa:i.types.length<=4294967295:=hi.nt;have w:∀A:pM,A=Std->A.lit [[.str N,c1,c2,H,M]]=bA dC [i]:=by rintro A rfl;obtain⟨rfl,rfl,rfl,rfl,rfl⟩:=hx;rfl
 refine eo Xd Tryz.func301 λA C L X=>?_;obtain⟨E,P⟩:∃E,E=A.lit [[.str N,c1,c2,H,M]]:=⟨_,rfl⟩;have ap:E=bA dC [i]:=P.trans (w A X.a);cbv;refine X.call (Yh ?_);cbv;refine X.range rfl ⟨Tryz.func331,by rfl,rfl⟩ rfl [(3,.box 4 0)] ?_ ?_
 ·cbv
 cbv;refine X.call (Yc (m:=[]) hx.2.1 aa rfl ?_ ?_)
 ·intro x m g j b0 b1 b2 b3 b4 b5 b6 b7 b8 b9 Q O K' ar hk rI hK;refine YC.enter (G:=TQ) k9 mixed rfl rfl rfl rfl rfl ?_;intro A C L X;have dG:[D.str b0,b1,.int b2,.str b3,.str b4,b5,b6,.int b7,.str b8,.str b9,Q,O]=fY x:=by obtain⟨rfl,rfl,⟨rfl,rfl,rfl,rfl,rfl⟩,rfl,rfl,rfl,rfl,rfl⟩:=hk;rw[oK]
  have q:=hK (A.lU g (.str b0) [D.str b0,b1,.int b2,.str b3,.str b4,b5,b6,.int b7,.str b8,.str b9,Q,O]) (by rw[dG,X.a,rI,hk.1];exact lq);cbv;exact q
 intro g rI;have p:=TM.of i;have v:=MG i.types;obtain⟨m,hm⟩:∃m,m=zR [] i.types:=⟨_,rfl⟩;rw[<- hm]at rI p v;clear hm;have W:∀s,s∈m.map (·.1)↔(ta i s).isSome=true:=λs=>by rw[yp,p.get]
 clear P;cbv
 refine X.Ld (λ(x:List Int×D×D)=>⟨[(24,.it 3),(3,.box 2 0),(2,.box 0 0)],[.box [.lst 97 (.list []),.nilm,.nilm],.map .str 80 x.2.2,.box [.lst 97 (A.lit [[.str N,c1,c2,H,M]]),.dmp 136 g,.mp 1],.diter 136 g x.2.1]⟩)
  (λx=>x.2.1=kq x.1/\x.1.Nodup/\(∀j∈x.1,0<=j/\j<m.length)/\∃mu,x.2.2=bA (fx rT) mu/\UM mu i (λs=>s∈x.1.map (λj=>(m.getD j.toNat ([],TE.zero)).1))) (λx=>m.length-x.1.length) ([],.list [],.list []) ⟨rfl,yS,yS,[],rfl,by simpa using UM.nil i⟩ ?_ ?_
 ·exact⟨[2],[],[1,3,4,6],rfl,yc⟩
 rintro⟨d,z,T⟩ ⟨hz,fR,hb,mu,y,R⟩;simp only at hz fR hb y R;cbv;refine⟨λh1=>?_,λj h1=>?_⟩
 ·have ha:=qS (m:=m) (f:=fx fY) (l:=d) (by rw[<- rI,<-hz,<-X.a];exact h1);have V:=AB (dft:=([],TE.zero)) hb ha;have B:UM mu i (λs=>(ta i s).isSome=true):=⟨R.nd,λs=>by rw[R.mem,V,W],R.get⟩;have q:=h m mu (A.lit [[.str N,c1,c2,H,M]]) g T p B (w A X.a) rI y;cbv;exact q
 ·obtain⟨u0,u1,u2⟩:0<=j/\j<m.length/\j∉d:=s5 (by rw[<- rI,<-hz,<-X.a];exact h1);have o:A.nL z j=kq (d++[j]):=by rw[X.a,hz,wU]
  have n:A.last (A.nL z j)=j:=by rw[o,X.a,uv]
  obtain⟨k,rfl⟩:∃k:Nat,j=bk k:=⟨j.toNat,yL⟩;have hk:k<m.length:=by simp only[bz]at u1;omega
  have u:A.bH (A.cell g (A.last (A.nL z (bk k))) 0)=(m.getD k ([],TE.zero)).1:=by rw[n,cellAt X.a rI hk,X.a];simp[fx,nF,hk]
  have g1:A.idx 0 (A.len (A.nL z (bk k))):=by rw[o,X.a,oL,kC];simp
  have g2:A.idx (A.last (A.nL z (bk k))) (A.len g):=by rw[n,X.a,rI];exact cY hk
  have c8:=P6 fR hb hk u2;have U:∀r F,r=bA cO F->A.lU T (.str (A.bH (A.cell g (A.last (A.nL z (bk k))) 0))) [r]=bA (fx rT) (iP (m.getD k ([],TE.zero)).1 (bA cO F) mu):=by intro r F hr;rw[u,X.a,y,hr];exact lq (f:=rT)
  refine p1 ?_;refine X.call (FC.g3 (c:=.undef) (Yg hi fh ac p (w A X.a) rI λF r hr t=>?_));have t:KS F (wV i (A.bH (A.cell g (A.last (A.nL z (bk k))) 0))):=t;rw[u]at t;have B:=R.put t (p':=λs=>s∈(d++[bk k]).map (λj=>(m.getD j.toNat ([],TE.zero)).1)) (λx=>by rw[cj,bG];simp only[bJ,hZ,df,bz,ej];exact Or.comm);refine p1 ?_;refine⟨(d++[bk k],A.nL z (bk k),_),⟨o,?_,?_,_,U r F hr,B⟩,?_,[],[],[0,1,2,3],rfl,?_⟩
  ·rw[cV];exact⟨fR,yS,λa ha b hb=>by simp at hb;subst hb;exactλe=>u2 (show (k:Int)∈d from e▸ha)⟩
  ·intro j I;rcases bG.1 I with I|I
   ·exact hb j I
   ·simp only[df]at I;subst I;exact⟨u0,u1⟩
  ·simp only[bt,dJ];omega
  exact yc
end Go.VC.cG
namespace Go.VC
def Qd(l:List S):List D:=[bA encS l]
end Go.VC
namespace Go.VC.cG
open Go Go.VC Go.Proofs Go.Sort
end Go.VC.cG
namespace Go.VC
open Go.Sort
end Go.VC
namespace Go.VC.cG
open Go Go.VC Go.Proofs Go.Sort
def SlN(Pp:fE)(n:Nat):Type:={ x:Value×List S // RD tt Pp (.slice 9) x.1 (bA encS x.2)/\x.2.length<=n }
instance (Pp:fE) (n:Nat):Inhabited (SlN Pp n):=⟨⟨(.slice none 0 0,[]),.slnil _,bB _⟩⟩
end Go.VC.cG
namespace Go.VC
structure GM (i:IF) (n:S) (l:List S):Prop where
 mem:∀s,s∈l↔wV i n s/\wV i s n
 nd:l.Nodup
 Wv:l.Pairwise λa b=>slt b a=false
def JB{m:List (S×Bool)}{p:S->Prop}(h:KS m p)(k:S):Std.asBool (Std.fc (bA cO m) (.str k) 0)=true↔p k:=by have J:KT m (m.map (·.1)):=⟨h.nd,λs=>Iff.rfl,h.tr⟩;rw[ux J k,decide_eq_true_iff];exact h.mem k
theorem UM.at{mu:List (S×D)}{i:IF}(h:UM mu i (λs=>(ta i s).isSome=true)){b:D}(j:b=bA (fx rT) mu)(s:S):
 ∃k,KS k (wV i s)/\cn (Std.fc b (.str s) 0)=k.map cO/\∀n,Std.asBool (Std.fc (Std.fc b (.str s) 0) (.str n) 0)=true↔wV i s n:=by
 subst j;cases hs:(ta i s).isSome with
 |true=>have h1:=(h.mem s).2 hs;rw[yp]at h1;obtain⟨q,c⟩:=eQ.1 h1;obtain⟨k,rfl,hk⟩:=h.get s q c;rw[ly (f:=rT) c 0];exact⟨k,hk,rfl,λn=>JB hk n⟩
 |false=>
  have h1:fJ mu s=none:=by
   have:¬s∈mu.map (·.1):=λe=>by have:=(h.mem s).1 e;rw[hs]at this;cases this
   rw[yp]at this;simpa using this
  rw[uw h1]
  have a:∀x,¬wV i s x:=by
   intro x l;have d:∀e,¬Gt i s e:=by rintro e ⟨u,hu,_⟩;have m:ta i s=none:=yU hs;rw[lC,m,wW,wY]at hu;simp at hu
   induction l with
   |one h=>exact d _ h
   |more _ _ g=>exact g
  refine⟨[],⟨yS,λx=>?_,yS⟩,rfl,λn=>?_⟩
  ·simp only[hZ,zx,false_iff];exact a x
  ·constructor
   ·intro e;exact absurd (show (false=true)from e) (by decide)
   ·intro e;exact absurd e (a n)
end Go.VC
namespace Go.VC.cG
open Go Go.VC Go.Proofs
section
variable {K:PV->List Ob->Prop}
def FC.g1{P:Program}{tt:TypeId->Option TI}{f:FuncId}{objs:List Ob}{a b c:PV}{rest:List PV}(h:FC P tt f objs (.agg [.undef,.undef,c]::rest) K):FC P tt f objs (.agg [a,b,c]::rest) K:=by
 intro E Pp w vals d e;refine h E Pp w vals d ?_;cases e with
 |cons v _ vs _ h1 J=>
  refine .cons _ _ _ _ ?_ J;cases h1 with
  |agg us _ hl=>
   cases hl with|cons _ _ _ _ ha hl=>cases hl with|cons _ _ _ _ hb hl=>cases hl with|cons _ _ _ _ hc hl=>
   cases hl;exact .agg _ _ (.cons _ _ _ _ (.undef _) (.cons _ _ _ _ (.undef _) (.cons _ _ _ _ hc .nil)))
def TK:ea:={tt:=tt,n:=29,own:=[5],dV:=[150]}
def Yf{i:IF}(af:i.types.length<=4294967295){mu:List (S×D)}(hU:UM mu i (λs=>(ta i s).isSome=true)){E:D}(N:E=bA (fx rT) mu){n:S}
 (h:∀l r,r=bA encS l->GM i n l->K (.row 9 0) [.row 9 r true]):
 FT 315 [] [.agg [.undef,.undef,.dmp 80 E],.str n] K:=by
 refine eo TK Tryz.func315 λA C L X=>?_;obtain⟨k,hk,c,_⟩:=hU.at N n;obtain⟨g,ac⟩:∃g,g=A.fc E (.str n) 0:=⟨_,rfl⟩;have c:cn g=k.map cO:=by rw[ac,X.a];exact c
 have U:k.length<=4294967295:=by have h1:=qv (i:=i) hk.nd λs hs=>((hk.mem s).1 hs).has;rw[bL]at h1;exact bQ h1 af
 have aa:∀d,A.nE g (kq d)->∀j:Nat,j<k.length->(j:Int)∈d:=by intro d h1 j f;rw[X.a]at h1;have:=h1 j (by rw[c,bL];exact f);simp only[kq,bA,cn,bP]at this;obtain⟨x,hx,he⟩:=this;simp at he;subst he;exact hx
 have R:∀d j,A.qb g (kq d) j->0<=j/\j<k.length/\j∉d:=by intro d j h1;rw[X.a]at h1;obtain⟨h1,J,h3⟩:=h1;rw[c,bL]at J;refine⟨h1,J,λf=>h3 ?_⟩;simp only[kq,bA,cn];exact bP.2 ⟨j,f,rfl⟩
 have I:A.len g=bk k.length:=by rw[X.a];show ((cn g).length:Int)=_;rw[c,bL];rfl
 have M:∀j (f:j<k.length),A.bH (A.cell g (bk j) 0)=k[j].1:=by intro j f;rw[X.a];show Std.bH ((((cn g).getD (bk j).toNat []).getD 0 .nil))=_;rw[c];simp[cc,f,cO,nF]
 have O:∀s,A.asBool (A.fc (A.fc E (.str s) 0) (.str n) 0)=true↔wV i s n:=by intro s;obtain⟨_,_,_,h3⟩:=hU.at N s;rw[X.a];exact h3 n
 clear hU N;cbv
 refine X.j0 (λ(x:List Int×D×D)=>⟨[(11,.it 2),(5,.row 9 1),(2,.box 0 0),(1,.str n)],[.box [.undef,.undef,.dmp 80 E],.row 9 x.2.2 true,.diter 4 (A.fc E (.str n) 0) x.2.1]⟩)
  (λx=>x.2.1=kq x.1/\x.1.Nodup/\(∀j∈x.1,0<=j/\j<k.length)/\∃l,x.2.2=bA encS l/\l.Nodup/\∀s,s∈l↔s∈x.1.map (λj=>(k.getD j.toNat ([],true)).1)/\wV i s n) (λx=>k.length-x.1.length) ([],.list [],.list []) ⟨rfl,by simp,by simp,[],rfl,by simp,by simp⟩ ?_ ?_
 ·exact⟨[0,1,2],rfl,yc⟩
 rintro⟨d,z,r⟩ ⟨hz,fR,hb,l,hr,y,o⟩;simp only at hz fR hb hr o;rw[<- ac];cbv;refine⟨λh1=>?_,λj h1=>?_⟩
 ·have ha:=aa d (by rw[<- hz];exact h1);have Q:=AB (dft:=([],true)) hb ha;have B:l.length<4294967296:=by have h1:=fv (m:=k.map (·.1)) y λs hs=>(Q s).1 ((o s).1 hs).1;rw[bL]at h1;exact jd (bQ h1 U) yD
  cbv;refine X.call (VV hr B λl2 r2 hp hs ae=>?_);cbv;refine h l2 r2 ae ⟨λs=>?_,hp.nodup_iff.2 y,hs⟩;rw[hp.mem_iff,o,Q,hk.mem]
 ·obtain⟨u0,u1,u2⟩:=R d j (by rw[<- hz];exact h1);have p:A.nL z j=kq (d++[j]):=by rw[X.a,hz,wU]
  have u:A.last (A.nL z j)=j:=by rw[p,X.a,uv]
  obtain⟨q,rfl⟩:∃q:Nat,j=bk q:=⟨j.toNat,yL⟩;have P:q<k.length:=lz.1 u1;have G:A.bH (A.cell g (A.last (A.nL z (bk q))) 0)=k[q].1:=by rw[u];exact M q P
  have aj:(k.getD q ([],true)).1=k[q].1:=by simp[cc,P]
  have g1:A.idx 0 (A.len (A.nL z (bk q))):=by rw[p,X.a,oL,kC];simp
  have g2:A.idx (A.last (A.nL z (bk q))) (A.len g):=by rw[u,I,X.a];exact⟨dS _,yL⟩
  have c8:=P6 fR hb P u2
  have w:k[q].1∉l:=by
   intro e;have:=((o _).1 e).1;obtain⟨j,f,e2⟩:=bP.1 this;obtain⟨b0,b1⟩:=hb j f;have t:j.toNat<k.length:=(Int.toNat_lt b0).2 b1;have e3:k[j.toNat].1=k[q].1:=by rw[<- e2];simp[cc,t]
   have F:=hJ.1 hk.nd;have ad:j.toNat≠q:=λe=>u2 (by rw[show (bk q)=j by simp only[bz];omega];exact f);rcases Nat.lt_or_gt_of_ne ad with h|h
   ·have:=F j.toNat q (yU t) (yU P) h;simp at this;exact this e3
   ·have:=F q j.toNat (yU P) (yU t) h;simp at this;exact this e3.symm
  have W:A.asBool (A.fc (A.fc E (.str (A.bH (A.cell g (A.last (A.nL z (bk q))) 0))) 0) (.str n) 0)=true↔wV i k[q].1 n:=by rw[G];exact O _
  have B:l.length<=4294967294:=by
   have h1:=fv (l:=k[q].1::l) (m:=k.map (·.1)) (cw.2 ⟨w,y⟩) λs hs=>by
    rcases bN.1 hs with rfl|hs
    ·exact bP.2 ⟨_,bu P,rfl⟩
    ·obtain⟨j,f,e2⟩:=bP.1 ((o s).1 hs).1;obtain⟨b0,b1⟩:=hb j f;have t:j.toNat<k.length:=(Int.toNat_lt b0).2 b1;exact bP.2 ⟨k[j.toNat],bu t,by rw[<- e2];simp[cc,t]⟩
   rw[bL,bM]at h1;exact Nat.le_of_succ_le_succ (bQ h1 U)
  have ak:A.gh (A.add (A.len r) (A.len (A.lit [[.str (A.bH (A.cell g (A.last (A.nL z (bk q))) 0))]]))) 4294967296:=by rw[X.a,hr];simp only[SD,bL];omega
  have V:A.app r (A.lit [[.str (A.bH (A.cell g (A.last (A.nL z (bk q))) 0))]])=bA encS (l++[k[q].1]):=by rw[G,X.a,hr];exact cB (k:=[k[q].1])
  have H:(d++[bk q]).Nodup:=by rw[cV];exact⟨fR,yS,λa ha b hb=>by simp at hb;subst hb;exactλe=>u2 (show (q:Int)∈d from e▸ha)⟩
  have ab:∀j∈d++[bk q],0<=j/\j<k.length:=by
   intro j f;rcases bG.1 f with f|f
   ·exact hb j f
   ·simp only[df]at f;subst f;exact⟨u0,u1⟩
  have v:∀s,s∈(d++[bk q]).map (λj=>(k.getD j.toNat ([],true)).1)↔s∈d.map (λj=>(k.getD j.toNat ([],true)).1)\/s=k[q].1:=by intro s;rw[cj,bG];simp only[bJ,hZ,df,bz,ej,aj]
  have T:k.length-(d++[bk q]).length<k.length-d.length:=by simp only[bt,dJ];omega
  cbv;repeat' (first|apply bq|exact zf|(intro J;cbv)|apply bE)
  any_goals first|exact g1|exact g2|exact ak
  ·have e1:A.asBool (A.fc (A.fc E (.str (A.bH (A.cell g (A.last (A.nL z (bk q))) 0))) 0) (.str n) 0)=true:=yA;refine⟨(d++[bk q],A.nL z (bk q),_),⟨p,H,ab,_,V,?_,λs=>?_⟩,T,[0,1,2],rfl,?_⟩
   ·rw[cV];exact⟨y,yS,λa ha b hb=>by simp at hb;subst hb;exactλe=>w (e▸ha)⟩
   ·rw[bG,df,o,v];constructor
    ·rintro(⟨a,b⟩|rfl)
     ·exact⟨.inl a,b⟩
     ·exact⟨.inr rfl,W.1 e1⟩
    ·rintro⟨a|a,b⟩
     ·exact .inl ⟨a,b⟩
     ·exact .inr a
   exact yc
  ·have e1:A.asBool (A.fc (A.fc E (.str (A.bH (A.cell g (A.last (A.nL z (bk q))) 0))) 0) (.str n) 0)=false:=yA;refine⟨(d++[bk q],A.nL z (bk q),r),⟨p,H,ab,l,hr,y,λs=>?_⟩,T,[0,1,2],rfl,?_⟩
   ·rw[o,v];constructor
    ·rintro⟨a,b⟩;exact⟨.inl a,b⟩
    ·rintro⟨a|rfl,b⟩
     ·exact⟨a,b⟩
     ·rw[W.2 b]at e1;cases e1
   exact yc
end
end Go.VC.cG
namespace Go.VC
def GM.uniq{i:IF}{n:S}{l d:List S}(h:GM i n l)(c:GM i n d):l=d:=by
 have e:l.Perm d:=by rw[n1 h.nd c.nd];intro s;rw[h.mem,c.mem]
 refine zU (le:=λa b=>slt b a=false) ?_ h.Wv c.Wv e;intro a b _ _ h1 J;exact o5 J h1
open Classical in
noncomputable def Ny(i:IF)(n:S):List S:=if h:∃l,GM i n l then h.choose else []
theorem GM.Ny{i:IF}{n:S}{l:List S}(h:GM i n l):l=Ny i n:=by have a:∃l,GM i n l:=⟨l,h⟩;unfold VC.Ny;rw[dif_pos a];exact h.uniq a.choose_spec
end Go.VC
namespace Go.VC.cG
open Go Go.VC Go.Proofs
end Go.VC.cG
namespace Go.VC
mutual
def sR(i:IF)(g:List S):Ty->Bool
 | .mk k m n ar fl=>if k != 10 then true else if K9 i g (.mk k m n ar fl)then false else yI i g ar
def yI(i:IF)(g:List S):List Ty->Bool
 |[]=>true
 |t::l=>sR i g t&&yI i g l
end
def yG(i:IF)(g:List S):∀l,yI i g l= !(l.any λt=> !sR i g t)
 |[]=>rfl
 |t::l=>by rw[yI,yG i g l,E8];simp
def xz(ar:List Ty)(ps:List Pm):Bool:=decide (ar.length=ps.length)&&(ar.zip ps).all λq=>q.1.k==9&&q.1.n==q.2.name
def Aq(i:IF)(g:List S)(ps:List Pm)(u:Ty):Bool:= !K9 i g u||xz u.ar ps
def BL(i:IF)(g:List S)(ps:List Pm)(t:Ty):Bool:=t.all.all (Aq i g ps)
def N7(i:IF)(g:List S)(ps:List Pm)(t:Ty):BL i g ps t=(Aq i g ps t&& !(t.er.any λu=> !BL i g ps u)):=by
 unfold BL;rw[all_eq,vC]
 congr 1
 rw[List.all_flatMap,List.any_eq_not_all_not,Ik];simp only[Ik]
end Go.VC
namespace Go.VC.cG
open Go Go.VC Go.Proofs
section
variable {d c a f e1 o y z s:D}{K:PV->List Ob->Prop}{l:List Ty}{p:Ty->Bool}{j e3 E B w:S}{e2 v:Int}{i:IF}{m:List (S×TE)}{g:List S}
def Nb(u:f=bA cq l)(hl:l.length<=4294967295)
 (P:∀x∈l,∀(G:Int)(c1:S)(c2:S)(H:D)(I:D)(M:PV->List Ob->Prop),cD x G c1 c2 H I->(∀b,b=p x->M (.bool b) [])->FT 334 [] [dO G c1 c2 H I,.cP [.lst 97 d,.dmp 136 c,.undef] 0,.cP [.lst 9 a] 0] M)
 (h:∀r:Int,r=jA p l->K (.int .i64 r) []):
 FT 203 [] [.lst 29 f,.cy 334 [.cP [.lst 97 d,.dmp 136 c,.undef] 0,.cP [.lst 9 a] 0]] K:=by
 refine en Ri Tryz.func203 λA C L X=>?_;obtain⟨k,n,e⟩:=lenOf u;cbv;refine lu X (λi=>i<=k/\∀x∈l.take i,p x=false) (λi=>k-i) 0 ⟨bB _,yS⟩ (λ(i:Nat)=>[(8,.int .i64 i)]) ?_;rintro i ⟨Q,ha⟩;cbv;constructor<;>intro h1
 ·have h5:i<l.length:=lY X.a e h1;have N:=gT X.a u h5;have O:=iX X.a u h5;have F:=jX X.a h5;refine p1 ?_;refine X.call (P _ (bu h5) _ _ _ _ _ _ N λb hb=>?_);have t:b=p l[i]:=hb;clear hb;cbv;repeat' (first|apply bq|exact zf|(intro J;cbv)|apply bE)
  any_goals exact F
  ·refine h i ?_;exact(fp h5 ha (by rw[<- t];obtain rfl:=X.a;simpa only[SD]using J)).symm
  ·have hf:p l[i]=false:=by rename_i h3;rw[<- t];obtain rfl:=X.a;simpa only[SD,dL]using h3
   refine⟨i+1,⟨yO,?_⟩,yO,?_⟩
   ·rw[cb h5];intro x q;rcases bG.1 q with q|q
    ·exact ha x q
    ·simp at q;subst q;exact hf
   exact yc
 ·have h5:i=k:=gY X.a e h1;subst h5;cbv;refine h (-1) ?_;rw[n,bD]at ha;exact(fq ha).symm
def Ni(u:f=bA cq l)(hl:l.length<=4294967295)
 (F:∀x∈l,∀(e:Int)(c1:S)(c2:S)(k:D)(n:D)(t:PV->List Ob->Prop),cD x e c1 c2 k n->(∀b,b=p x->t (.bool b) [])->FT 334 [] [dO e c1 c2 k n,.cP [.lst 97 d,.dmp 136 c,.undef] 0,.cP [.lst 9 a] 0] t)
 (h:∀b,b=l.any p->K (.bool b) []):
 FT 157 [] [.lst 29 f,.cy 334 [.cP [.lst 97 d,.dmp 136 c,.undef] 0,.cP [.lst 9 a] 0]] K:=by
 refine en Rj Tryz.func157 λA C L X=>?_;cbv;refine X.call (Nb u hl F λr hr=>?_);have q:=h (A.le 0 r) (by rw[X.a,lL,jH,hr]);cbv;exact q
def Na(u:f=bA cq l)(hl:l.length<=4294967295)
 (P:∀x∈l,∀(G:Int)(c1:S)(c2:S)(H:D)(I:D)(M:PV->List Ob->Prop),cD x G c1 c2 H I->(∀b,b=p x->M (.bool b) [])->FT 337 [] [dO G c1 c2 H I,.cP [.lst 97 d,.dmp 136 c,.undef] 0,.cP [.str j,.lst 73 e1,.int .i64 e2,.str e3,.str E,.lst 29 o,.lst 57 y,.int .i64 v,.str B,.str w,.lst 29 z,.lst 57 s] 0,.cP [.lst 9 a] 0] M)
 (h:∀r:Int,r=jA p l->K (.int .i64 r) []):
 FT 203 [] [.lst 29 f,.cy 337 [.cP [.lst 97 d,.dmp 136 c,.undef] 0,.cP [.str j,.lst 73 e1,.int .i64 e2,.str e3,.str E,.lst 29 o,.lst 57 y,.int .i64 v,.str B,.str w,.lst 29 z,.lst 57 s] 0,.cP [.lst 9 a] 0]] K:=by
 refine en Ri Tryz.func203 λA C L X=>?_;obtain⟨k,n,e⟩:=lenOf u;cbv;refine lu X (λi=>i<=k/\∀x∈l.take i,p x=false) (λi=>k-i) 0 ⟨bB _,yS⟩ (λ(i:Nat)=>[(8,.int .i64 i)]) ?_;rintro i ⟨Q,ha⟩;cbv;constructor<;>intro h1
 ·have h5:i<l.length:=lY X.a e h1;have N:=gT X.a u h5;have O:=iX X.a u h5;have F:=jX X.a h5;refine p1 ?_;refine X.call (P _ (bu h5) _ _ _ _ _ _ N λb hb=>?_);have t:b=p l[i]:=hb;clear hb;cbv;repeat' (first|apply bq|exact zf|(intro J;cbv)|apply bE)
  any_goals exact F
  ·refine h i ?_;exact(fp h5 ha (by rw[<- t];obtain rfl:=X.a;simpa only[SD]using J)).symm
  ·have hf:p l[i]=false:=by rename_i h3;rw[<- t];obtain rfl:=X.a;simpa only[SD,dL]using h3
   refine⟨i+1,⟨yO,?_⟩,yO,?_⟩
   ·rw[cb h5];intro x q;rcases bG.1 q with q|q
    ·exact ha x q
    ·simp at q;subst q;exact hf
   exact yc
 ·have h5:i=k:=gY X.a e h1;subst h5;cbv;refine h (-1) ?_;rw[n,bD]at ha;exact(fq ha).symm
def ER(u:f=bA cq l)(hl:l.length<=4294967295)
 (F:∀x∈l,∀(e:Int)(c1:S)(c2:S)(k:D)(n:D)(t:PV->List Ob->Prop),cD x e c1 c2 k n->(∀b,b=p x->t (.bool b) [])->FT 337 [] [dO e c1 c2 k n,.cP [.lst 97 d,.dmp 136 c,.undef] 0,.cP [.str j,.lst 73 e1,.int .i64 e2,.str e3,.str E,.lst 29 o,.lst 57 y,.int .i64 v,.str B,.str w,.lst 29 z,.lst 57 s] 0,.cP [.lst 9 a] 0] t)
 (h:∀b,b=l.any p->K (.bool b) []):
 FT 157 [] [.lst 29 f,.cy 337 [.cP [.lst 97 d,.dmp 136 c,.undef] 0,.cP [.str j,.lst 73 e1,.int .i64 e2,.str e3,.str E,.lst 29 o,.lst 57 y,.int .i64 v,.str B,.str w,.lst 29 z,.lst 57 s] 0,.cP [.lst 9 a] 0]] K:=by
 refine en Rj Tryz.func157 λA C L X=>?_;cbv;refine X.call (Na u hl F λr hr=>?_);have q:=h (A.le 0 r) (by rw[X.a,lL,jH,hr]);cbv;exact q
def Ya{t:Ty}{p:Pm}{e:Int}{c1 c2:S}{r F:D}{n:S}{b1 b2:Int}{G x:S}{q u:D}(O:cD t e c1 c2 r F)(I:IT p n b1 b2 G x q u)(h:∀b,b=(t.k==9&&t.n==p.name)->K (.bool b) []):
 FT 336 [] [dO e c1 c2 r F,KP n b1 b2 G x q u] K:=by
 obtain⟨P,Q,M,H,N⟩:=O;rw[<- P,<-M,<-I.1]at h;refine en (cf 15) Tryz.func336 λA C L X=>?_;have Z:=qH X.a;have k:=Nw X.a;refine p2 (λJ=>?_) (λJ=>?_)
 ·have e1:A.eq e 9=true:=yA;rw[Z]at e1;refine h _ ?_;rw[e1];exact k c2 n
 ·have e1:A.eq e 9=false:=yA;rw[Z]at e1;refine h _ ?_;rw[e1];rfl
def Yb{ar:List Ty}{ps:List Pm}{x F:D}(ha:x=bA cq ar)(G:F=bA eU ps)(R:ar.length<=4294967295)(h:∀b,b=xz ar ps->K (.bool b) []):
 FT 335 [] [.lst 29 x,.lst 73 F,.cy 336 []] K:=by
 refine en (cf 32) Tryz.func335 λA C L X=>?_;obtain⟨r,t,k⟩:=lenOf ha;obtain⟨O,M,u⟩:=lenOf G;have l1:A.len x=bk ar.length:=iW X.a ha;have l2:A.len F=bk ps.length:=iW X.a G;have Y:=fz X.a;have Z:=qH X.a;refine p2 (λJ=>?_) (λJ=>?_)
 ·have J:A.not (A.eq (A.len x) (A.len F))=true:=J;rw[Y,Z,l1,l2]at J;refine h _ ?_;have:¬ar.length=ps.length:=λe=>by rw[e]at J;simp at J
  unfold xz;rw[decide_eq_false this];rfl
 have n:ar.length=ps.length:=by have J:A.not (A.eq (A.len x) (A.len F))=false:=J;rw[Y,Z,l1,l2]at J;have J:(bk ar.length==bk ps.length)=true:=yU J;exact zV (eq_of_beq J)
 clear J;cbv;refine lu X (λi=>i<=r/\((ar.zip ps).take i).all (λq=>q.1.k==9&&q.1.n==q.2.name)=true) (λi=>r-i) 0 ⟨bB _,rfl⟩ (λ(i:Nat)=>[(17,.int .i64 i)]) ?_;rintro i ⟨U,H⟩;cbv;constructor<;>intro h1
 ·have h5:i<ar.length:=lY X.a k h1;have h6:i<ps.length:=n▸h5;have h7:i<(ar.zip ps).length:=by rw[List.length_zip,n,Nat.min_self];exact h6
  have P:=gT X.a ha h5;have Q:=kh X.a G h6;have T:=iX X.a ha h5;have N:=iX X.a G h6;have I:=jX X.a h5;have hz:(ar.zip ps)[i]=(ar[i],ps[i]):=List.getElem_zip;refine p1 ?_;refine X.call (Ya P Q λb hb=>?_);cbv;repeat' (first|apply bq|exact zf|(intro J;cbv)|apply bE)
  any_goals exact I
  ·have J:A.not b=true:=yA;rw[Y,hb]at J;refine h _ ?_;have:((ar.zip ps).all λq=>q.1.k==9&&q.1.n==q.2.name)=false:=by rw[pE];refine⟨_,bu h7,?_⟩;rw[hz];intro e;have e:(ar[i].k==9&&ar[i].n==ps[i].name)=true:=e;rw[e]at J;cases J
   unfold xz;rw[this,iI]
  ·have J:A.not b=false:=yA;rw[Y,hb]at J;refine⟨i+1,⟨yO,?_⟩,yO,?_⟩
   ·rw[cb h7,rX,H,hz,vC,List.all_nil,Bool.and_true,ka];simpa using J
   exact yc
 ·have h5:i=r:=gY X.a k h1;cbv;refine h true ?_;rw[db (by rw[List.length_zip,n,Nat.min_self,<-n,h5,t];exact cg _)]at H;unfold xz;rw[H,decide_eq_true n];rfl
def Vu(hi:i.ok)(hm:TM m i)(V:d=bA dC [i])(hT:c=bA (fx fY) m)(W:a=bA encS g)(P:g.length<=4294967295):
 ∀(t:Ty),Ty.le 4294967295 t->∀{e:Int}{c1 c2:S}{M I:D}{K:PV->List Ob->Prop},cD t e c1 c2 M I->(∀b,b=sR i g t->K (.bool b) [])->
 FT 316 [] [.agg [.lst 97 d,.dmp 136 c,.undef],dO e c1 c2 M I,.lst 9 a] K:=by
 refine Ty.gj λt ih=>?_;intro x e c1 c2 M I K R h;have H:=R;obtain⟨t0,t1,t2,Q,ab⟩:=R;have r:t.ar.length<=4294967295:=by cases x;assumption
 have n:sR i g t=if e != 10 then true else if K9 i g t then false else yI i g t.ar:=by rw[t0];cases t;rfl
 refine en (cf 19) Tryz.func316 λA C L X=>?_;have Y:=fz X.a;have Z:=qH X.a;cbv;repeat' (first|apply bq|exact zf|(intro J;cbv)|apply bE|(refine X.call (Vr hi hm V hT W P H λb hb=>?_);cbv))
 ·have J:A.not (A.eq e 10)=true:=J;rw[Y,Z]at J;refine h _ ?_;rw[n,if_pos (show (e != 10)=true from J)]
 ·have h3:A.not (A.eq e 10)=false:=yA;have J:b=true:=J;rw[Y,Z]at h3;refine h _ ?_;rw[n,if_neg (by rw[show (e != 10)= !(e==10)from rfl,h3];decide),if_pos (by rw[<- hb,J])]
 ·have h3:A.not (A.eq e 10)=false:=yA;have J:b=false:=J;rw[Y,Z]at h3;refine X.call (Ni (p:=λu=> !sR i g u) Q r (λu hu b0 b1 b2 T U K' G F=>?_) λT O=>?_)
  ·have J:=J;have k:u∈t.er:=by simp[Ty.er,hu]
   refine en (cf 10) Tryz.func334 λA C L X=>?_;cbv;refine X.call (ih u k (ie x u k) G λU N=>?_);have q:=F (A.not U) (by rw[X.a,N];rfl);cbv;exact q
  have q:=h (A.not T) (by rw[Y,O,n,if_neg (by rw[show (e != 10)= !(e==10)from rfl,h3];decide),if_neg (by rw[<- hb,J];decide),yG]);cbv;exact q
def Vt(hi:i.ok)(hm:TM m i)(hd:d=bA dC [i])(hT:c=bA (fx fY) m)(hg:a=bA encS g)(W:g.length<=4294967295){x:TE}(hx:o4 x j e1 e2 e3 E o y v B w z s):
 ∀(t:Ty),Ty.le 4294967295 t->t.size<=4294967295->∀{c0:Int}{c1 c2:S}{U T:D}{K:PV->List Ob->Prop},cD t c0 c1 c2 U T->(∀b,b=BL i g x.params t->K (.bool b) [])->
 FT 317 [] [.agg [.lst 97 d,.dmp 136 c,.undef],dO c0 c1 c2 U T,tn j e1 e2 e3 E o y v B w z s,.lst 9 a] K:=by
 refine Ty.gj λt ih=>?_;intro F hs c0 c1 c2 U T K ht h;obtain⟨H,k⟩:=xq hs;have M:=ht;obtain⟨t0,t1,t2,aa,ai⟩:=ht;have I:t.ar.length<=4294967295:=by cases F;assumption
 rw[N7]at h;refine en (cf 26) Tryz.func317 λA C L X=>?_;have Y:=fz X.a;have ae:Aq i g x.params t=true->∀{rp:D}(st:List Ob->Prop),rp=bA cq t.er->True:=λ_ _ _ _=>trivial;have e:∀u∈t.er,∀(P:Int)(b1 b2:S)(n N:D)(K':PV->List Ob->Prop),cD u P b1 b2 n N->(∀b,b= !BL i g x.params u->K' (.bool b) [])->FT 337 [] [dO P b1 b2 n N,.cP [.lst 97 d,.dmp 136 c,.undef] 0,.cP [.str j,.lst 73 e1,.int .i64 e2,.str e3,.str E,.lst 29 o,.lst 57 y,.int .i64 v,.str B,.str w,.lst 29 z,.lst 57 s] 0,.cP [.lst 9 a] 0] K':=by intro u hu P b1 b2 n N K' R Q;refine en (cf 12) Tryz.func337 λA C L X=>?_;cbv;refine X.call (ih u hu (ie F u hu) (H u hu) R λN V=>?_);have q:=Q (A.not N) (by rw[X.a,V];rfl);cbv;exact q
 cbv;repeat' (first|apply bq|exact zf|(intro J;cbv)|apply bE|(refine X.call (Vr hi hm hd hT hg W M λb hb=>?_);cbv)|(refine X.call (Yb aa hx.2.1 I λb2 O=>?_);cbv)|(refine X.call (VH F k M λr hr=>?_);cbv))
 ·have J:A.not b2=true:=J;have h3:b=true:=yA;rw[Y,O]at J;refine h _ ?_;rw[Aq,<-hb,h3,show xz t.ar x.params=false by simpa using J];rfl
 ·have h3:b=true:=yA;rw[Y,O]at J;refine X.call (ER (p:=λu=> !BL i g x.params u) hr k e λn G=>?_);have q:=h (A.not n) (by rw[Y,G,Aq,show xz t.ar x.params=true by simpa using J,wX,ka]);cbv;exact q
 ·have h3:b=false:=yA;refine X.call (ER (p:=λu=> !BL i g x.params u) hr k e λn G=>?_);have q:=h (A.not n) (by rw[Y,G,Aq,<-hb,h3,tg,Bool.true_or,ka]);cbv;exact q
end
end Go.VC.cG
namespace Go.VC
noncomputable def mr(p:Pm):Bool:=decide (p.var<0)||decide (2<p.var)|| !same p.bound Ty.zero
def su(p:Pm):Bool:=p.var != 0
def QV(k:Nat):S:=35::Go.Lib.decDigits k
def nM(w:Pm->Bool):Nat->List Pm->Int
 |_,[]=>0
 |k,p::l=>if p.name≠QV k then 4 else if w p then 1 else nM w (k+1) l
def jR(w:Pm->Bool)(l:List Pm):Int:=if 8<l.length then 7 else nM w 0 l
noncomputable def uL(i:IF)(x:TE):Bool:=
 if(Ny i x.name).all (λs=>((ta i s).getD TE.zero).params.length==x.params.length)=false then false else
 sR i (Ny i x.name) x.lower&&sR i (Ny i x.name) x.upper&&BL i (Ny i x.name) x.params x.lower&&BL i (Ny i x.name) x.params x.upper
structure Ty.fit (t:Ty):Prop where
 le:Ty.le 4294967295 t
 sz:t.size<=1048576
 mi:∀u∈t.all,u.mi
structure TE.fit (x:TE):Prop where
 n:x.name.length<=1048576
 np:x.params.length<=1048576
 p:∀p∈x.params,p.bound.fit
 lo:x.lower.fit
 up:x.upper.fit
structure VE.fit (x:VE):Prop where
 n:x.name.length<=1048576
 np:x.params.length<=1048576
 p:∀p∈x.params,p.bound.fit
 ty:x.ty.fit
structure AE.fit (x:AE):Prop where
 n:x.name.length<=1048576
 g:x.target.length<=1048576
structure DE.fit (x:DE):Prop where
 n:x.name.length<=1048576
structure IF.fit (i:IF):Prop where
 ok:i.ok
 path:i.path.length<=1048576
 rf:lE i<=1048576
 nt:i.types.length<=1048576
 nv:i.values.length<=1048576
 na:i.aliases.length<=1048576
 nd:i.deprecated.length<=1048576
 t:∀x∈i.types,x.fit
 v:∀x∈i.values,x.fit
 a:∀x∈i.aliases,x.fit
 d:∀x∈i.deprecated,x.fit
def IF.fit.fh{i:IF}(h:i.fit):∀x∈i.types,x.lower.size<=1048576/\x.upper.size<=1048576:=λx a=>⟨(h.t x a).lo.sz,(h.t x a).up.sz⟩
end Go.VC
namespace Go.VC.cG
open Go Go.VC Go.Proofs
section
variable {K:PV->List Ob->Prop}{l:List Pm}{o m B F:S}{b1 b2:Int}{c f de c1 c2 z E:D}
abbrev qK(de:D)(F:S)(c1 c2 z E:D):PV:=.agg [.lst 97 de,.str F,.lst 136 c1,.lst 91 c2,.lst 210 z,.lst 213 E]
def WL{p:Pm}(hf:Ty.le 4294967295 p.bound)(a:IT p o b1 b2 m B c f)(h:∀b,b=mr p->K (.bool b) []):
 FT 297 [] [KP o b1 b2 m B c f] K:=by
 obtain⟨p0,p1,p2⟩:=a;unfold mr at h;rw[<- p1]at h;refine en (cf 18) Tryz.func297 λA C L X=>?_;have Y:=fz X.a;have c8:=I6 X.a;cbv;repeat' (first|apply bq|exact zf|(intro J;cbv)|apply bE|(refine X.call (Z3 _ hf p2 (u:=Ty.zero) ⟨rfl,rfl,rfl,rfl,rfl⟩ λb hb=>?_);cbv))
 ·have e1:A.lt b1 0=false:=yA;have e2:A.lt 2 b1=false:=yA;rw[c8]at e1 e2;refine h _ ?_;rw[e1,e2,<-hb];exact Y b
 ·have e1:A.lt b1 0=false:=yA;have e2:A.lt 2 b1=true:=yA;rw[c8]at e1 e2;refine h _ ?_;rw[e1,e2];rfl
 ·have e1:A.lt b1 0=true:=yA;rw[c8]at e1;refine h _ ?_;rw[e1];rfl
def WK{p:Pm}(hf:Ty.le 4294967295 p.bound)(a:IT p o b1 b2 m B c f)(h:∀b,b=su p->K (.bool b) []):
 FT 303 [] [KP o b1 b2 m B c f] K:=by
 refine en (cf 6) Tryz.func303 λA C L X=>?_;have q:=h (A.not (A.eq b1 0)) (by rw[X.a,a.2.1];rfl);cbv;exact q
def MX{d:D}(hf:∀p∈l,Ty.le 4294967295 p.bound)(q:d=bA eU l)
 (h:∀r:Int,r=jR mr l->K (.int .i64 r) []):
 FT 296 [] [qK de F c1 c2 z E,.lst 73 d,.cy 297 []] K:=by
 refine en TT Tryz.func296 λA C L X=>?_;have Y:=fz X.a;have s:=Nw X.a;have l1:A.len d=bk l.length:=iW X.a q;obtain⟨g,n,a⟩:=lenOf q;refine p2 (λJ=>?_) (λJ=>?_)
 ·have J:A.lt 8 (A.len d)=true:=J;rw[l1,X.a,im]at J;refine h _ ?_;have:8<l.length:=by have:=of_decide_eq_true J;simp only[bz]at this;omega
  rw[jR,if_pos this]
 have u:¬8<l.length:=by have J:A.lt 8 (A.len d)=false:=J;rw[l1,X.a,im]at J;have:=of_decide_eq_false J;simp only[bz]at this;omega
 rw[jR,if_neg u]at h;clear J;cbv;refine lu X (λi=>i<=g/\nM mr 0 l=nM mr i (l.drop i)) (λi=>g-i) 0 ⟨bB _,rfl⟩ (λ(i:Nat)=>[(14,.int .i64 i)]) ?_;rintro i ⟨G,j⟩;cbv;constructor<;>intro h1
 ·have h5:i<l.length:=lY X.a a h1;have w:=kh X.a q h5;have x:=w.1;have y:=iX X.a q h5;have t:=jX X.a h5;have k:∀r,A.jy [35] r=35::r:=by rw[X.a];exactλ_=>rfl
  rw[bF h5,nM]at j;refine p1 ?_;refine X.call (X8 (i:=i) yO λr hr=>?_)
  have v:A.inr .i64 (A.add (A.dr [35]) (A.dr r)):=by
   have h8:r.length=1:=by rw[hr,Go.Lib.decDigits,dif_pos yO];rfl
   rw[X.a,fu,fy,gu,gu,h8];decide
  have e1:A.not (A.seq (A.bH (A.cell d (bk i) 0)) (A.jy [35] r))= !(l[i].name==QV i):=by rw[Y,s,x,k,hr];rfl
  cbv;repeat' (first|apply bq|exact zf|(intro J;cbv)|apply bE|(refine X.call (WL (hf _ (bu h5)) w λb hb=>?_);cbv))
  any_goals first|exact t|exact v
  ·rw[e1]at J;refine h _ ?_;rw[j,if_pos (by intro e;rw[e]at J;simp at J)]
  ·have J:A.not (A.seq (A.bH (A.cell d (bk i) 0)) (A.jy [35] r))=false:=yA;have h3:b=true:=yA;rw[e1]at J;refine h _ ?_;rw[j,if_neg (yU J),if_pos (by rw[<- hb,h3])]
  ·have J:A.not (A.seq (A.bH (A.cell d (bk i) 0)) (A.jy [35] r))=false:=yA;have h3:b=false:=yA;rw[e1]at J;refine⟨i+1,⟨by omega,?_⟩,by omega,?_⟩
   ·rw[j,if_neg (yU J),if_neg (by rw[<- hb,h3];decide)]
   exact yc
 ·have h5:i=g:=gY X.a a h1;cbv;refine h 0 ?_;rw[j,h5,n,cd];rfl
def MW{d:D}(hf:∀p∈l,Ty.le 4294967295 p.bound)(q:d=bA eU l)
 (h:∀r:Int,r=jR su l->K (.int .i64 r) []):
 FT 296 [] [qK de F c1 c2 z E,.lst 73 d,.cy 303 []] K:=by
 refine en TT Tryz.func296 λA C L X=>?_;have Y:=fz X.a;have s:=Nw X.a;have l1:A.len d=bk l.length:=iW X.a q;obtain⟨g,n,a⟩:=lenOf q;refine p2 (λJ=>?_) (λJ=>?_)
 ·have J:A.lt 8 (A.len d)=true:=J;rw[l1,X.a,im]at J;refine h _ ?_;have:8<l.length:=by have:=of_decide_eq_true J;simp only[bz]at this;omega
  rw[jR,if_pos this]
 have u:¬8<l.length:=by have J:A.lt 8 (A.len d)=false:=J;rw[l1,X.a,im]at J;have:=of_decide_eq_false J;simp only[bz]at this;omega
 rw[jR,if_neg u]at h;clear J;cbv;refine lu X (λi=>i<=g/\nM su 0 l=nM su i (l.drop i)) (λi=>g-i) 0 ⟨bB _,rfl⟩ (λ(i:Nat)=>[(14,.int .i64 i)]) ?_;rintro i ⟨G,j⟩;cbv;constructor<;>intro h1
 ·have h5:i<l.length:=lY X.a a h1;have w:=kh X.a q h5;have x:=w.1;have y:=iX X.a q h5;have t:=jX X.a h5;have k:∀r,A.jy [35] r=35::r:=by rw[X.a];exactλ_=>rfl
  rw[bF h5,nM]at j;refine p1 ?_;refine X.call (X8 (i:=i) yO λr hr=>?_)
  have v:A.inr .i64 (A.add (A.dr [35]) (A.dr r)):=by
   have h8:r.length=1:=by rw[hr,Go.Lib.decDigits,dif_pos yO];rfl
   rw[X.a,fu,fy,gu,gu,h8];decide
  have e1:A.not (A.seq (A.bH (A.cell d (bk i) 0)) (A.jy [35] r))= !(l[i].name==QV i):=by rw[Y,s,x,k,hr];rfl
  cbv;repeat' (first|apply bq|exact zf|(intro J;cbv)|apply bE|(refine X.call (WK (hf _ (bu h5)) w λb hb=>?_);cbv))
  any_goals first|exact t|exact v
  ·rw[e1]at J;refine h _ ?_;rw[j,if_pos (by intro e;rw[e]at J;simp at J)]
  ·have J:A.not (A.seq (A.bH (A.cell d (bk i) 0)) (A.jy [35] r))=false:=yA;have h3:b=true:=yA;rw[e1]at J;refine h _ ?_;rw[j,if_neg (yU J),if_pos (by rw[<- hb,h3])]
  ·have J:A.not (A.seq (A.bH (A.cell d (bk i) 0)) (A.jy [35] r))=false:=yA;have h3:b=false:=yA;rw[e1]at J;refine⟨i+1,⟨by omega,?_⟩,by omega,?_⟩
   ·rw[j,if_neg (yU J),if_neg (by rw[<- hb,h3];decide)]
   exact yc
 ·have h5:i=g:=gY X.a a h1;cbv;refine h 0 ?_;rw[j,h5,n,cd];rfl
def TR:ea:={tt:=tt,n:=19,own:=[3]}
def Vx{d:D}(g:d=bA eU l)(hl:l.length<=1048576)(h:∀r,r=bA encS (l.map Pm.name)->K (.row 9 0) [.row 9 r true]):
 FT 298 [] [.lst 73 d] K:=by
 refine eo TR Tryz.func298 λA C L X=>?_;obtain⟨b,e,a⟩:=lenOf g;cbv;refine lP X (λy=>y.1<=b/\y.2=bA encS ((l.take y.1).map Pm.name)) (λy=>b-y.1) (0,.list []) ⟨bB _,rfl⟩ [0] (λ(y:Nat×D)=>⟨[(8,.int .i64 y.1),(7,.int .i64 (A.len d)),(6,.lst 73 d),(3,.row 9 0)],[.row 9 y.2 true]⟩) ?_;rintro⟨i,r⟩ ⟨u,hr⟩;simp only at u hr;cbv;constructor<;>intro h1
 ·have h5:i<l.length:=lY X.a a h1;have j:=kh X.a g h5;have p:=j.1;have s:=iX X.a g h5;have n:=jX X.a h5;have t:A.gh (A.add (A.len r) (A.len (A.lit [[.str (A.bH (A.cell d (bk i) 0))]]))) 4294967296:=by rw[X.a,hr];simp only[SD,bL];omega
  have q:A.app r (A.lit [[.str (A.bH (A.cell d (bk i) 0))]])=bA encS ((l.take (i+1)).map Pm.name):=by rw[p,X.a,hr,map_take h5];exact cB (k:=[l[i].name])
  refine p1 ?_;exact⟨(i+1,_),⟨yP,q⟩,yP,[0],rfl,yc⟩
 have h5:i=b:=gY X.a a h1;subst h5;rw[e,bD]at hr;cbv;exact h r hr
def Yr{l:List Int}{d:D}(k:d=bA (λj=>[D.int j]) l)(hl:l.length<=1048576)(h:∀r:Int,r=gp l->K (.int .i64 r) []):
 FT 299 [] [.lst 41 d] K:=by
 refine en (cf 15) Tryz.func299 λA C L X=>?_;have Y:=fz X.a;have Z:=qH X.a;obtain⟨b,e,a⟩:=lenOf k;cbv;refine lu X (λi=>i<=b/\gp l=gp (l.drop i)) (λi=>b-i) 0 ⟨bB _,rfl⟩ (λ(i:Nat)=>[(7,.int .i64 i)]) ?_;rintro i ⟨s,g⟩;cbv;constructor<;>intro h1
 ·have h5:i<l.length:=lY X.a a h1;have q:A.asInt (A.cell d (bk i) 0)=l[i]:=by rw[cellAt X.a k h5,X.a];rfl
  have p:=iX X.a k h5;have n:=jX X.a h5;rw[bF h5,iw,<-q]at g;cbv;repeat' (first|apply bq|exact zf|(intro J;cbv)|apply bE)
  any_goals first|exact p|exact n
  ·have J:A.not (A.eq (A.asInt (A.cell d (bk i) 0)) 0)=true:=yA;rw[Y,Z]at J;refine h _ ?_;rw[g,if_neg (yU J)]
  ·have J:A.not (A.eq (A.asInt (A.cell d (bk i) 0)) 0)=false:=yA;rw[Y,Z]at J;refine⟨i+1,⟨yO,?_⟩,yO,?_⟩
   ·rw[g,if_pos (yU J)]
   exact yc
 ·have h5:i=b:=gY X.a a h1;cbv;refine h 0 ?_;rw[g,h5,e,cd];rfl
end
end Go.VC.cG
namespace Go.VC
noncomputable def xi(env:List IF)(i:IF)(x:TE):Int:=
 if jR mr x.params≠0 then jR mr x.params else
 if gp [tk env (x.params.map Pm.name) x.lower,tk env (x.params.map Pm.name) x.upper]≠0 then gp [tk env (x.params.map Pm.name) x.lower,tk env (x.params.map Pm.name) x.upper]else
 if(!jY env x.lower [] x.params|| !jY env x.upper [] x.params)=true then 12 else
 if uL i x=false then 14 else 0
def xc(env:List IF)(vs:List S):Nat->List Pm->Int
 |_,[]=>0
 |k,p::l=>if tk env (vs.take k) p.bound≠0 then tk env (vs.take k) p.bound else xc env vs (k+1) l
def Bt(env:List IF)(x:VE):Int:=
 if jR su x.params≠0 then jR su x.params else
 if xc env (x.params.map Pm.name) 0 x.params≠0 then xc env (x.params.map Pm.name) 0 x.params else
 tk env (x.params.map Pm.name) x.ty
def pz(env:List IF)(x:AE):Int:=
 if(my x.name&&my x.target)=true then(di env x.module x.target).2.2 else
 if(lg x.name&&lg x.target)=true then(ji env x.module x.target).2.2 else 4
end Go.VC
namespace Go.VC.cG
open Go Go.VC Go.Proofs
section
variable {c e3 n t B w:S}{K:PV->List Ob->Prop}{e1 f g de c1 c2 o q z u:D}{e2 v:Int}{env:List IF}{i:IF}{x:TE}
def Yp(O:i.fit)(E:x.fit){m:List (S×TE)}(P:TM m i){mu:List (S×D)}(hU:UM mu i (λs=>(ta i s).isSome=true)){d R dU:D}(U:d=bA dC [i])(hT:R=bA (fx fY) m)(ad:dU=bA (fx rT) mu)
 (I:o4 x c e1 e2 e3 n f g v B w z u) (h:∀b,b=uL i x->K (.bool b) []):
 FT 302 [] [.agg [.lst 97 d,.dmp 136 R,.dmp 80 dU],tn c e1 e2 e3 n f g v B w z u] K:=by
 have k0:=I.1;have k1:=I.2.1;refine en (cf 57) Tryz.func302 λA C L X=>?_;have Y:=fz X.a;have Z:=qH X.a;cbv;refine X.call (FC.g1 (Yf O.ok.nt hU ad λl Q p G=>?_));rw[k0]at G;have N:=G.Ny;have W:l.length<=1048576:=bQ (qv G.nd λs hs=>((G.mem s).1 hs).1.has) O.nt;obtain⟨F,M,a⟩:=lenOf p;cbv;refine lu X (λj=>j<=F/\(l.take j).all (λs=>((ta i s).getD TE.zero).params.length==x.params.length)=true) (λj=>F-j) 0 ⟨bB _,rfl⟩ (λ(j:Nat)=>[(14,.int .i64 j)]) ?_;rintro j ⟨hj,hq⟩;cbv;constructor<;>intro h1
 ·have h5:j<l.length:=lY X.a a h1;have ah:=iX X.a p h5;have ac:=jX X.a h5;have hc:A.bH (A.cell Q (bk j) 0)=l[j]:=by rw[cellAt X.a p h5,X.a];rfl
  obtain⟨y,V⟩:=eQ.1 ((G.mem l[j]).1 (bu h5)).1.has;have T:A.mJ R (.str (A.bH (A.cell Q (bk j) 0)))=true:=by rw[hc,X.a,hT,lx,P.get,V];rfl
  have ky:=PN X.a hT (k:=A.bH (A.cell Q (bk j) 0)) (by rw[hc,P.get];exact V);have l1:A.len (A.fc R (.str (A.bH (A.cell Q (bk j) 0))) 1)=bk y.params.length:=iW X.a ky.2.1;have l2:A.len e1=bk x.params.length:=iW X.a k1;have aa:(l.take (j+1)).all (λs=>((ta i s).getD TE.zero).params.length==x.params.length)=(y.params.length==x.params.length):=by rw[cb h5,rX,hq,ka,vC,List.all_nil,Bool.and_true,V];rfl
  have H:(bk y.params.length==bk x.params.length)=(y.params.length==x.params.length):=by rw[cM];simp only[beq_iff_eq,bz];omega
  cbv;repeat' (first|apply bq|exact zf|(intro J;first|exact yB T J|cbv)|apply bE)
  any_goals first|exact ah|exact ac
  ·rw[Y,Z,l1,l2,H]at J;refine h _ ?_;have hf:(Ny i x.name).all (λs=>((ta i s).getD TE.zero).params.length==x.params.length)=false:=by rw[pE];refine⟨l[j],by rw[<- N];exact bu h5,?_⟩;rw[V];intro e;rw[show (y.params.length==x.params.length)=true from e]at J;cases J
   unfold uL;rw[if_pos hf]
  ·have J:A.not (A.eq (A.len (A.fc R (.str (A.bH (A.cell Q (bk j) 0))) 1)) (A.len e1))=false:=yA;rw[Y,Z,l1,l2,H]at J;refine⟨j+1,⟨yO,?_⟩,yO,?_⟩
   ·rw[aa];simpa using J
   exact yc
 ·have h5:j=F:=gY X.a a h1;rw[h5,M,bD,N]at hq;have r:l.length<=4294967295:=bQ W yD;unfold uL at h;rw[if_neg (by rw[hq];decide),<-N]at h;cbv;repeat' (first|apply bq|exact zf|(intro J;cbv)|apply bE|(refine X.call (FC.g3 (Vu O.ok P U hT p r _ E.lo.le I.2.2.1 λb1 ag=>?_));cbv)|(refine X.call (FC.g3 (Vu O.ok P U hT p r _ E.up.le I.2.2.2 λb2 ae=>?_));cbv)|(refine X.call (FC.g3 (Vt O.ok P U hT p r I _ E.lo.le (bQ E.lo.sz yD) I.2.2.1 λb3 ai=>?_));cbv)|(refine X.call (FC.g3 (Vt O.ok P U hT p r I _ E.up.le (bQ E.up.sz yD) I.2.2.2 λb4 af=>?_));cbv))
  all_goals refine h _ ?_
  all_goals (try rw[<- ag])
  all_goals (try rw[<- ae])
  all_goals (try rw[<- ai])
  all_goals (try rw[<- af])
  ·rw[show b1=true by assumption,show b2=true by assumption,show b3=true by assumption];rfl
  ·rw[show b1=true by assumption,show b2=true by assumption,show b3=false by assumption];rfl
  ·rw[show b1=true by assumption,show b2=false by assumption];rfl
  ·rw[show b1=false by assumption];rfl
def YB(he:de=bA dC env)(ek:eH env)(M:i.fit)(d:x.fit)
 (hc:kn i t c1 c2 o q) (k:o4 x c e1 e2 e3 n f g v B w z u) (h:∀r:Int,r=xi env i x->K (.int .i64 r) []):
 FT 281 [] [qK de t c1 c2 o q,tn c e1 e2 e3 n f g v B w z u] K:=by
 have I:=k.2.1;have O:∀{r:D},r=bA encS (x.params.map Pm.name)->(x.params.map Pm.name).length<=4294967295:=λ_=>by rw[bL];exact bQ d.np yD
 have P:∀p∈x.params,Ty.le 4294967295 p.bound:=λp hp=>(d.p p hp).le;have y:x.params.length<=4294967295:=bQ d.np yD;have Q:x.lower.size<=4294967295:=bQ d.lo.sz yD;have U:x.upper.size<=4294967295:=bQ d.up.sz yD;refine en Xi Tryz.func281 λA C L X=>?_;have Y:=fz X.a;have Z:=qH X.a;have E:∀a b:Int,A.lit [[.int a],[.int b]]=bA (λj=>[D.int j]) [a,b]:=by rw[X.a];exactλ_ _=>rfl
 unfold xi at h;cbv;refine X.call (MX P I λr0 F=>?_);rw[<- F]at h;refine p2 (λJ=>?_) (λJ=>?_)
 ·have J:A.not (A.eq r0 0)=true:=J;rw[Y,Z]at J;exact h _ (by rw[if_pos (yU J)])
 have J:A.not (A.eq r0 0)=false:=J;rw[Y,Z]at J;rw[if_neg (yU J)]at h;refine X.call (Vx I d.np λvs e=>?_);have s:=O e;cbv;repeat' (first|apply bq|exact zf|(intro J;cbv)|apply bE|(refine X.call (Nk he ek e s d.lo.le Q d.lo.mi k.2.2.1 λr1 G=>?_);cbv)|(refine X.call (Nk he ek e s d.up.le U d.up.mi k.2.2.2 λr2 l=>?_);cbv))
 refine X.call (Yr (E r1 r2) (show (2:Nat)<=1048576 by decide) λr3 H=>?_);rw[<- G,<-l,<-H]at h;clear J;refine p2 (λJ=>?_) (λJ=>?_)
 ·have J:A.not (A.eq r3 0)=true:=J;rw[Y,Z]at J;exact h _ (by rw[if_pos (yU J)])
 have J:A.not (A.eq r3 0)=false:=J;rw[Y,Z]at J;rw[if_neg (yU J)]at h;clear J;cbv;repeat' (first|apply bq|exact zf|(intro J;cbv)|apply bE|(refine X.call (Vw he ek I y d.lo.le k.2.2.1 λb1 W=>?_);cbv)|(refine X.call (Vw he ek I y d.up.le k.2.2.2 λb2 V=>?_);cbv)|(refine X.call (Yq M.ok M.fh M.rf hc λm mu dA dT dU hm R N rI T=>?_);cbv)|(refine X.call (Yp M d hm R N rI T k λb3 aa=>?_);cbv))
 all_goals refine h _ ?_
 all_goals clear h G l H F
 all_goals (try simp only[Y]at *)
 all_goals (try subst W)
 all_goals (try subst V)
 all_goals (try subst aa)
 all_goals simp_all[dL]
def Yz(he:de=bA dC env)(ek:eH env){x:AE}(d:x.fit)
 {e1 e2:S} (G:EI x c e1 e2) (h:∀r:Int,r=pz env x->K (.int .i64 r) []):
 FT 283 [] [qK de t c1 c2 o q,Jx c e1 e2] K:=by
 obtain⟨s,F,y⟩:=G;have b:c.length<=4294967295:=by rw[s];exact bQ d.n yD
 have a:e2.length<=4294967295:=by rw[y];exact bQ d.g yD
 unfold pz at h;rw[<- s,<-F,<-y]at h;refine en (cf 53) Tryz.func283 λA C L X=>?_;cbv;repeat' (first|apply bq|exact zf|(intro J;cbv)|apply bE|(refine X.call (JG b λb1 k=>?_);cbv)|(refine X.call (JG a λb2 e=>?_);cbv)|(refine X.call (GP b λI p=>?_);cbv)|(refine X.call (GP a λH j=>?_);cbv)|(refine X.call (SP he ek λ_ _ _ _ _ _ _ _ _ _ _ _ E r2 _ l m=>?_);cbv)|(refine X.call (F82 he ek λ_ _ _ _ _ _ _ E r2 _ l m=>?_);cbv))
 all_goals refine h _ ?_
 all_goals clear h
 all_goals (try subst k)
 all_goals (try subst e)
 all_goals (try subst p)
 all_goals (try subst j)
 all_goals simp_all[dL]
def YA(he:de=bA dC env)(ek:eH env){x:VE}(a:x.fit)
 (P:uD x c e1 e2 e3 n f g) (h:∀r:Int,r=Bt env x->K (.int .i64 r) []):
 FT 282 [] [qK de t c1 c2 o q,Bs c e1 e2 e3 n f g] K:=by
 have s:=P.2.1;have E:(x.params.map Pm.name).length<=1048576:=by rw[bL];exact a.np
 have I:∀p∈x.params,Ty.le 4294967295 p.bound:=λp R=>(a.p p R).le;have Q:x.params.length<=4294967295:=bQ a.np yD;have N:x.ty.size<=4294967295:=bQ a.ty.sz yD;refine en Xh Tryz.func282 λA C L X=>?_;have Y:=fz X.a;have Z:=qH X.a;unfold Bt at h;cbv;refine X.call (MW I s λr0 O=>?_);rw[<- O]at h;refine p2 (λJ=>?_) (λJ=>?_)
 ·have J:A.not (A.eq r0 0)=true:=J;rw[Y,Z]at J;exact h _ (by rw[if_pos (yU J)])
 have J:A.not (A.eq r0 0)=false:=J;rw[Y,Z]at J;rw[if_neg (yU J)]at h;refine X.call (Vx s a.np λvs m=>?_);obtain⟨d,k,b⟩:=lenOf s;cbv;refine lp X (λj=>j.1<=d/\xc env (x.params.map Pm.name) 0 x.params=xc env (x.params.map Pm.name) j.1 (x.params.drop j.1)) (λj=>d-j.1) (0,true) ⟨bB _,rfl⟩ (λ(j:Nat×Bool)=>⟨[(23,.int .i64 j.1),(22,.int .i64 (A.len e1)),(21,.lst 73 e1),(6,.row 9 2),(3,.box 1 0),(2,.box 0 0)],[.box [.lst 97 de,.str t,.lst 136 c1,.lst 91 c2,.lst 210 o,.lst 213 q],.box [.str c,.lst 73 e1,.int .i64 e2,.str e3,.str n,.lst 29 f,.lst 57 g],.row 9 vs j.2]⟩) ?_;rintro⟨j,fl⟩ ⟨V,e⟩;simp only at V e;cbv;constructor<;>intro h1
 ·have h5:j<x.params.length:=lY X.a b h1;have U:=kh X.a s h5;have aa:=iX X.a s h5;have M:=jX X.a h5;cbv;have F:A.part vs 0 (bk j)=bA encS ((x.params.map Pm.name).take j):=by rw[X.a,m,vA];simp
  have H:((x.params.map Pm.name).take j).length<=4294967295:=bQ (List.length_take_le' _ _) (bQ E yD);have ab:(a.p _ (bu h5)).le=(a.p _ (bu h5)).le:=rfl;have G:x.params[j].bound.size<=4294967295:=bQ (a.p _ (bu h5)).sz yD;have T:A.gh 0 (bk j):=by rw[X.a];simp only[SD];omega
  have W:A.gh (bk j) (A.len vs):=by rw[X.a,m];simp only[SD,bL];omega
  rw[bF h5,xc]at e;refine p1 ?_;refine X.call (Nk he ek F H (a.p _ (bu h5)).le G (a.p _ (bu h5)).mi U.2.2 λy l=>?_);rw[<- l]at e;cbv;repeat' (first|apply bq|exact zf|(intro J;cbv)|apply bE)
  any_goals exact M
  ·have J:A.not (A.eq y 0)=true:=yA;rw[Y,Z]at J;rw[if_pos (yU J)]at e;refine h _ ?_;rw[e,if_pos (yU J)]
  ·have J:A.not (A.eq y 0)=false:=yA;rw[Y,Z]at J;have h4:y=0:=yU J;rw[if_neg (by rw[h4];decide)]at e;exact⟨(j+1,false),⟨yP,e⟩,yP,yc⟩
 ·have h5:j=d:=gY X.a b h1;have hz:xc env (x.params.map Pm.name) 0 x.params=0:=by rw[e,h5,k,cd];rfl
  rw[hz,if_neg yD]at h;cbv;refine X.call (Nk he ek m (bQ E yD) a.ty.le N a.ty.mi P.2.2 λy l=>?_);cbv;exact h y l
end
end Go.VC.cG
namespace Go.VC
end Go.VC
namespace Go.VC.cG
open Go Go.VC Go.Proofs
end Go.VC.cG
namespace Go.VC
def Ea(i:IF):Int:=if HA i.path=false then 4 else if 64<i.types.length+i.values.length+i.aliases.length then 7 else 0
def qx(i:IF):List S:=i.types.map TE.name
def oU(i:IF):List S:=i.values.map VE.name
def p5(i:IF):List S:=i.aliases.map AE.name
def BR(i:IF):List S:=i.deprecated.map DE.name
end Go.VC
namespace Go.VC.cG
open Go Go.VC Go.Proofs
section
variable {i:IF}{de c1 c2 a c:D}{d:S}{K:PV->List Ob->Prop}
def YS(f:i.fit)(hc:kn i d c1 c2 a c)(h:∀r:Int,r=Ea i->K (.tup [.str [],.int .i64 r]) []):
 FT 245 [] [qK de d c1 c2 a c] K:=by
 have g:d.length<=4294967200:=by rw[hc.1];exact bQ f.path yD
 unfold Ea at h;rw[<- hc.1]at h;refine en (cf 26) Tryz.func245 λA C L X=>?_;have l1:A.len c1=bk i.types.length:=iW X.a hc.2.1;have l2:A.len c2=bk i.values.length:=iW X.a hc.2.2.1;have l3:A.len a=bk i.aliases.length:=iW X.a hc.2.2.2.1;have Y:=fz X.a;have l:=f.nt;have m:=f.nv;have n:=f.na;have j:A.inr .i64 (A.add (A.len c1) (A.len c2)):=by rw[l1,l2,X.a];simp only[SD];omega
 have k:A.inr .i64 (A.add (A.add (A.len c1) (A.len c2)) (A.len a)):=by rw[l1,l2,l3,X.a];simp only[SD];omega
 cbv;repeat' (first|apply bq|exact zf|(intro J;cbv)|apply bE|(refine X.call (VA g λb hb=>?_);cbv))
 ·rw[Y,hb]at J;refine h _ ?_;rw[if_pos (yU J)]
 ·exact j
 ·exact k
 ·have h3:A.not b=false:=yA;rw[Y,hb]at h3;rw[l1,l2,l3,X.a]at J;simp only[SD]at J;refine h _ ?_;rw[if_neg (by intro e;rw[e]at h3;cases h3),if_pos yO]
 ·have h3:A.not b=false:=yA;rw[Y,hb]at h3;rw[l1,l2,l3,X.a]at J;simp only[SD]at J;refine h _ ?_;rw[if_neg (by intro e;rw[e]at h3;cases h3),if_neg yO]
def TW:ea:={tt:=tt,n:=79,own:=[4]}
def Si(N:i.fit)(hc:kn i d c1 c2 a c)
 (h:∀d0 Q d2 P,d0=bA encS (qx i)->Q=bA encS (oU i)->d2=bA encS (p5 i)->P=bA encS (BR i)->K (.tup [.agg [.lst 9 d0,.lst 9 Q,.lst 9 d2,.lst 9 P],.agg [.cy 185 [],.cy 263 [],.cy 295 [],.cy 295 []]]) []):
 FT 280 [] [qK de d c1 c2 a c] K:=by
 refine en TW Tryz.func280 λA C L X=>?_;have U:=N.nt;have V:=N.nv;have R:=N.na;have T:=N.nd;obtain⟨p,q⟩:∃n,n=i.types.length:=⟨_,rfl⟩;have e:Std.len c1=bk p:=by rw[hc.2.1,da,q];rfl
 cbv;refine lP X (λy=>y.1<=p/\y.2=bA encS ((i.types.take y.1).map TE.name)) (λy=>p-y.1) (0,.list []) ⟨bB _,rfl⟩ [0,1,2,3,4,5,6,7] (λ(y:Nat×D)=>⟨[(17,.int .i64 y.1),(16,.int .i64 (A.len c1)),(15,.lst 136 c1),(4,.box 7 0),(3,.box 2 0),(2,.box 1 0),(1,.box 0 0)],[.box [.lst 97 de,.str d,.lst 136 c1,.lst 91 c2,.lst 210 a,.lst 213 c],.box [.lst 9 (.list []),.lst 9 (.list []),.lst 9 (.list []),.lst 9 (.list [])],.box [.nilf,.nilf,.nilf,.nilf],.row 9 (y.2) true,.row 9 (.list []) true,.row 9 (.list []) true,.row 9 (.list []) true,.box [.row 9 3,.row 9 4,.row 9 5,.row 9 6]]⟩) ?_;rintro⟨j,r0⟩ ⟨z,u⟩;simp only at z u;cbv;constructor<;>intro h1
 ·have h5:j<i.types.length:=lY X.a e h1;have B:=mz X.a hc.2.1 h5;have E:=B.1;have I:=iX X.a hc.2.1 h5;have G:=jX X.a h5;have H:A.gh (A.add (A.len r0) (A.len (A.lit [[.str (A.bH (A.cell c1 (bk j) 0))]]))) 4294967296:=by rw[X.a,u];simp only[SD,bL];omega
  have F:A.app r0 (A.lit [[.str (A.bH (A.cell c1 (bk j) 0))]])=bA encS ((i.types.take (j+1)).map TE.name):=by rw[E,X.a,u,map_take h5];exact cB (k:=[i.types[j].name])
  refine p1 ?_;exact⟨(j+1,_),⟨yP,F⟩,yP,[0,1,2,3,4,5,6,7],rfl,yc⟩
 have h5:j=p:=gY X.a e h1;rw[h5,q,bD]at u;clear h1 z;obtain⟨l,s⟩:∃n,n=i.values.length:=⟨_,rfl⟩;have g:Std.len c2=bk l:=by rw[hc.2.2.1,da,s];rfl
 cbv;refine lP X (λy=>y.1<=l/\y.2=bA encS ((i.values.take y.1).map VE.name)) (λy=>l-y.1) (0,.list []) ⟨bB _,rfl⟩ [0,1,2,3,4,5,6,7] (λ(y:Nat×D)=>⟨[(33,.int .i64 y.1),(32,.int .i64 (A.len c2)),(31,.lst 91 c2),(4,.box 7 0),(3,.box 2 0),(2,.box 1 0),(1,.box 0 0)],[.box [.lst 97 de,.str d,.lst 136 c1,.lst 91 c2,.lst 210 a,.lst 213 c],.box [.lst 9 (.list []),.lst 9 (.list []),.lst 9 (.list []),.lst 9 (.list [])],.box [.nilf,.nilf,.nilf,.nilf],.row 9 (r0) true,.row 9 (y.2) true,.row 9 (.list []) true,.row 9 (.list []) true,.box [.row 9 3,.row 9 4,.row 9 5,.row 9 6]]⟩) ?_;rintro⟨j,M⟩ ⟨z,w⟩;simp only at z w;cbv;constructor<;>intro h1
 ·have h5:j<i.values.length:=lY X.a g h1;have B:=oX X.a hc.2.2.1 h5;have E:=B.1;have I:=iX X.a hc.2.2.1 h5;have G:=jX X.a h5;have H:A.gh (A.add (A.len M) (A.len (A.lit [[.str (A.bH (A.cell c2 (bk j) 0))]]))) 4294967296:=by rw[X.a,w];simp only[SD,bL];omega
  have F:A.app M (A.lit [[.str (A.bH (A.cell c2 (bk j) 0))]])=bA encS ((i.values.take (j+1)).map VE.name):=by rw[E,X.a,w,map_take h5];exact cB (k:=[i.values[j].name])
  refine p1 ?_;exact⟨(j+1,_),⟨yP,F⟩,yP,[0,1,2,3,4,5,6,7],rfl,yc⟩
 have h5:j=l:=gY X.a g h1;rw[h5,s,bD]at w;clear h1 z;obtain⟨m,v⟩:∃n,n=i.aliases.length:=⟨_,rfl⟩;have b:Std.len a=bk m:=by rw[hc.2.2.2.1,da,v];rfl
 cbv;refine lP X (λy=>y.1<=m/\y.2=bA encS ((i.aliases.take y.1).map AE.name)) (λy=>m-y.1) (0,.list []) ⟨bB _,rfl⟩ [0,1,2,3,4,5,6,7] (λ(y:Nat×D)=>⟨[(49,.int .i64 y.1),(48,.int .i64 (A.len a)),(47,.lst 210 a),(4,.box 7 0),(3,.box 2 0),(2,.box 1 0),(1,.box 0 0)],[.box [.lst 97 de,.str d,.lst 136 c1,.lst 91 c2,.lst 210 a,.lst 213 c],.box [.lst 9 (.list []),.lst 9 (.list []),.lst 9 (.list []),.lst 9 (.list [])],.box [.nilf,.nilf,.nilf,.nilf],.row 9 (r0) true,.row 9 (M) true,.row 9 (y.2) true,.row 9 (.list []) true,.box [.row 9 3,.row 9 4,.row 9 5,.row 9 6]]⟩) ?_;rintro⟨j,r2⟩ ⟨z,r⟩;simp only at z r;cbv;constructor<;>intro h1
 ·have h5:j<i.aliases.length:=lY X.a b h1;have B:=zr X.a hc.2.2.2.1 h5;have E:=B.1;have I:=iX X.a hc.2.2.2.1 h5;have G:=jX X.a h5;have H:A.gh (A.add (A.len r2) (A.len (A.lit [[.str (A.bH (A.cell a (bk j) 0))]]))) 4294967296:=by rw[X.a,r];simp only[SD,bL];omega
  have F:A.app r2 (A.lit [[.str (A.bH (A.cell a (bk j) 0))]])=bA encS ((i.aliases.take (j+1)).map AE.name):=by rw[E,X.a,r,map_take h5];exact cB (k:=[i.aliases[j].name])
  refine p1 ?_;exact⟨(j+1,_),⟨yP,F⟩,yP,[0,1,2,3,4,5,6,7],rfl,yc⟩
 have h5:j=m:=gY X.a b h1;rw[h5,v,bD]at r;clear h1 z;obtain⟨o,t⟩:∃n,n=i.deprecated.length:=⟨_,rfl⟩;have f:Std.len c=bk o:=by rw[hc.2.2.2.2,da,t];rfl
 cbv;refine lP X (λy=>y.1<=o/\y.2=bA encS ((i.deprecated.take y.1).map DE.name)) (λy=>o-y.1) (0,.list []) ⟨bB _,rfl⟩ [0,1,2,3,4,5,6,7] (λ(y:Nat×D)=>⟨[(65,.int .i64 y.1),(64,.int .i64 (A.len c)),(63,.lst 213 c),(4,.box 7 0),(3,.box 2 0),(2,.box 1 0),(1,.box 0 0)],[.box [.lst 97 de,.str d,.lst 136 c1,.lst 91 c2,.lst 210 a,.lst 213 c],.box [.lst 9 (.list []),.lst 9 (.list []),.lst 9 (.list []),.lst 9 (.list [])],.box [.nilf,.nilf,.nilf,.nilf],.row 9 (r0) true,.row 9 (M) true,.row 9 (r2) true,.row 9 (y.2) true,.box [.row 9 3,.row 9 4,.row 9 5,.row 9 6]]⟩) ?_;rintro⟨j,O⟩ ⟨z,x⟩;simp only at z x;cbv;constructor<;>intro h1
 ·have h5:j<i.deprecated.length:=lY X.a f h1;have B:=Mc X.a hc.2.2.2.2 h5;have E:=B.1;have I:=iX X.a hc.2.2.2.2 h5;have G:=jX X.a h5;have H:A.gh (A.add (A.len O) (A.len (A.lit [[.str (A.bH (A.cell c (bk j) 0))]]))) 4294967296:=by rw[X.a,x];simp only[SD,bL];omega
  have F:A.app O (A.lit [[.str (A.bH (A.cell c (bk j) 0))]])=bA encS ((i.deprecated.take (j+1)).map DE.name):=by rw[E,X.a,x,map_take h5];exact cB (k:=[i.deprecated[j].name])
  refine p1 ?_;exact⟨(j+1,_),⟨yP,F⟩,yP,[0,1,2,3,4,5,6,7],rfl,yc⟩
 have h5:j=o:=gY X.a f h1;rw[h5,t,bD]at x;clear h1 z;cbv;exact h r0 M r2 O u w r x
end
end Go.VC.cG
namespace Go.VC
section
variable {f:S->Bool}{s p:S}{l:List S}
def gJ(f:S->Bool):Option S->List S->S×Int
 |_,[]=>([],0)
 |none,s::l=>if f s=false then(s,4)else gJ f (some s) l
 |some p,s::l=>if f s=false then(s,4)else if s=p then(s,5)else if slt s p=true then(s,1)else gJ f (some s) l
def gd(a b:S×Int):S×Int:=if a.2≠0 then a else b
def wa(s:S):Bool:=lg s||my s
def yb(i:IF):S×Int:=gd (gJ my none (qx i)) (gd (gJ lg none (oU i)) (gd (gJ wa none (p5 i)) (gd (gJ wa none (BR i)) ([],0))))
def fC(l:List S)(j:Nat):Option S:=if j=0 then none else some (l.getD (j-1) [])
def nw{p:Option S}(h:f s=false):gJ f p (s::l)=(s,4):=by cases p<;>rw[gJ,if_pos h]
def wM(h:f s=true):gJ f none (s::l)=gJ f (some s) l:=by rw[gJ,if_neg (by rw[h];decide)]
def wN(h:f s=true)(J:s=p):gJ f (some p) (s::l)=(s,5):=by rw[gJ,if_neg (by rw[h];decide),if_pos J]
def wO(h:f s=true)(J:s≠p)(h3:slt s p=true):gJ f (some p) (s::l)=(s,1):=by rw[gJ,if_neg (by rw[h];decide),if_neg J,if_pos h3]
def wL(h:f s=true)(J:s≠p)(h3:slt s p=false):gJ f (some p) (s::l)=gJ f (some s) l:=by rw[gJ,if_neg (by rw[h];decide),if_neg J,if_neg (by rw[h3];decide)]
def CA(g:S->Bool):List S->S×Int
 |[]=>([],0)
 |s::l=>if g s=true then(s,5)else CA g l
def A2(i:IF):S×Int:=gd (CA (qx i).contains (oU i)) (CA (λs=>(qx i).contains s||(oU i).contains s) (p5 i))
def nU{α:Type}(e:α->Int)(n:α->S):List α->S×Int
 |[]=>([],0)
 |x::l=>if e x≠0 then(n x,e x)else nU e n l
noncomputable def mQ(env:List IF)(i:IF):S×Int:=gd (nU (xi env i) TE.name i.types) (gd (nU (Bt env) VE.name i.values) (nU (pz env) AE.name i.aliases))
end
end Go.VC
namespace Go.VC.cG
open Go Go.VC Go.Proofs
def YR{i:IF}(hi:i.fit){de:D}{c0:S}{c1 c2 c3 c4:D}(hc:kn i c0 c1 c2 c3 c4){K:PV->List Ob->Prop}(h:∀(s:S)(r:Int),(s,r)=yb i->K (.tup [.str s,.int .i64 r]) []):
 FT 246 [] [qK de c0 c1 c2 c3 c4] K:=by
 refine en (cf 63) Tryz.func246 λA C L X=>?_;have Y:=fz X.a;have c8:=I6 X.a;have t:=Nw X.a;have G:=ZT X.a;have P:∀k:Nat,k<4->A.inr .i64 (A.add (bk k) 1):=by rw[X.a];exactλk hk=>fm hk yD
 have nT:=hi.nt;have nV:=hi.nv;have nA:=hi.na;have nD:=hi.nd;cbv;refine X.call (Si hi hc λd0 O d2 N ac aa V W=>?_);obtain⟨E0,ao⟩:∃x,x=gJ my none (qx i):=⟨_,rfl⟩;obtain⟨E1,ap⟩:∃x,x=gJ lg none (oU i):=⟨_,rfl⟩;obtain⟨E2,ar⟩:∃x,x=gJ wa none (p5 i):=⟨_,rfl⟩;obtain⟨E3,aq⟩:∃x,x=gJ wa none (BR i):=⟨_,rfl⟩;unfold yb at h;rw[<- ao,<-ap,<-ar,<-aq]at h;cbv;refine lu X (λk=>k<=4/\(0<k->E0.2=0)/\(1<k->E1.2=0)/\(2<k->E2.2=0)/\(3<k->E3.2=0)) (λk=>4-k) 0 ⟨bB _,yS,yS,yS,yS⟩ (λ(k:Nat)=>[(16,.int .i64 k)]) ?_;rintro k ⟨hk,w0,w1,w2,w3⟩;have au:k=0\/k=1\/k=2\/k=3\/k=4:=yO;rcases au with rfl|rfl|rfl|rfl|rfl
 ·have m:A.lt (bk 0) 4=true:=by rw[c8];rfl
  have n:A.lt (bk 0) 4≠false:=by rw[m];decide
  have ag:(qx i).length<=1048576:=by rw[qx,bL];exact nT
  have fh:∀s∈qx i,s.length<=4294967295:=by intro s hs;obtain⟨x,hx,rfl⟩:=bP.1 hs;exact bQ (hi.t x hx).n yD
  have c:∀(s:S)(r:Int),E0=(s,r)->r≠0->(s,r)=gd E0 (gd E1 (gd E2 (gd E3 ([],0)))):=by intro s r e hr;rw[gd,if_pos (by rw[e];exact hr),e]
  obtain⟨U,af,y⟩:=lenOf ac;cbv;refine⟨λh1=>?_,λh1=>absurd h1 n⟩;cbv;refine lu X (λj=>j<=U/\E0=gJ my (fC (qx i) j) ((qx i).drop j)) (λj=>U-j) 0 ⟨bB _,ao⟩ (λ(j:Nat)=>[(22,.int .i64 j)]) ?_;rintro j ⟨hj,d⟩;cbv;constructor<;>intro h1
  ·have h5:j<(qx i).length:=by obtain rfl:=X.a;simp only[y,SD]at h1;omega
   have al:=iX X.a ac h5;have o:=jX X.a h5;have a:A.bH (A.cell d0 (bk j) 0)=(qx i)[j]:=by rw[cellAt X.a ac h5,X.a];rfl
   have mZ:(A.bH (A.cell d0 (bk j) 0)).length<=4294967295:=by rw[a];exact fh _ (bu h5)
   have E:A.lt 0 (bk j)=true->A.inr .i64 (A.sub (bk j) 1):=by intro h;rw[c8]at h;have h:=of_decide_eq_true h;rw[X.a];simp only[SD]at *;omega
   have B:A.lt 0 (bk j)=true->A.idx (A.sub (bk j) 1) (A.len d0):=by intro h;rw[c8]at h;have h:=of_decide_eq_true h;rw[X.a]at *;simp only[y,SD]at *;omega
   have H:A.lt 0 (bk j)=true->∃p,fC (qx i) j=some p/\A.bH (A.cell d0 (A.sub (bk j) 1) 0)=p:=by
    intro h;rw[c8]at h;have h:=of_decide_eq_true h;simp only[bz]at h;have z:j-1<(qx i).length:=yO;refine⟨(qx i)[j-1],?_,?_⟩
    ·rw[fC,if_neg yO];simp[cc,z]
    ·rw[show A.sub (bk j) 1=bk (j-1)by rw[X.a];simp only[SD];omega,cellAt X.a ac z,X.a];rfl
   have M:A.lt 0 (bk j)=false->fC (qx i) j=none:=by intro h;rw[c8]at h;have h:=of_decide_eq_false h;simp only[bz]at h;rw[fC,if_pos yO]
   have q:fC (qx i) (j+1)=some (qx i)[j]:=by rw[fC,if_neg yO];simp[cc,h5]
   obtain⟨sj,F⟩:∃x,x=(qx i)[j]:=⟨_,rfl⟩;rw[bF h5,<-F]at d;rw[<- F]at q a;refine p1 ?_;refine X.call (JG mZ λb hb=>?_);have hb:b=my sj:=by rw[<- a];exact hb
   cases hz:A.lt 0 (bk j)with
   |true=>
    obtain⟨p,I,g⟩:=H hz;rw[I]at d;cbv;repeat' (first|apply bq|exact zf|(intro J;first|exact yB hz J|cbv)|apply bE)
    any_goals first|exact o|exact E hz|exact B hz
    ·have J:A.not b=true:=yA;rw[Y,hb]at J;refine h _ _ (c _ _ ?_ yD);rw[d,nw (yU J)];exact dR a.symm rfl
    ·have J:A.not b=false:=yA;have h3:A.seq (A.bH (A.cell d0 (bk j) 0)) (A.bH (A.cell d0 (A.sub (bk j) 1) 0))=true:=yA;rw[Y,hb]at J;rw[a,g,t]at h3;refine h _ _ (c _ _ ?_ yD);rw[d,wN (yU J) (yU h3)];exact dR a.symm rfl
    ·have J:A.not b=false:=yA;have h3:A.seq (A.bH (A.cell d0 (bk j) 0)) (A.bH (A.cell d0 (A.sub (bk j) 1) 0))=false:=yA;have h4:A.slt (A.bH (A.cell d0 (bk j) 0)) (A.bH (A.cell d0 (A.sub (bk j) 1) 0))=true:=yA;rw[Y,hb]at J;rw[a,g,t]at h3;rw[a,g,G]at h4;refine h _ _ (c _ _ ?_ yD);rw[d,wO (yU J) (yU h3) h4];exact dR a.symm rfl
    ·have J:A.not b=false:=yA;have h3:A.seq (A.bH (A.cell d0 (bk j) 0)) (A.bH (A.cell d0 (A.sub (bk j) 1) 0))=false:=yA;have h4:A.slt (A.bH (A.cell d0 (bk j) 0)) (A.bH (A.cell d0 (A.sub (bk j) 1) 0))=false:=yA;rw[Y,hb]at J;rw[a,g,t]at h3;rw[a,g,G]at h4;refine⟨j+1,⟨yO,?_⟩,yO,?_⟩
     ·rw[q,d,wL (yU J) (yU h3) h4]
     exact yc
   |false=>
    rw[M hz]at d;cbv;repeat' (first|apply bq|exact zf|(intro J;first|exact yB hz J|cbv)|apply bE)
    any_goals first|exact o
    ·have J:A.not b=true:=yA;rw[Y,hb]at J;refine h _ _ (c _ _ ?_ yD);rw[d,nw (yU J)];exact dR a.symm rfl
    ·have J:A.not b=false:=yA;rw[Y,hb]at J;refine⟨j+1,⟨yO,?_⟩,yO,?_⟩
     ·rw[q,d,wM (yU J)]
     exact yc
  ·have h5:j=U:=gY X.a y h1;rw[h5,af,cd]at d;have hz:E0=([],0):=by rw[d];unfold gJ;cases fC (qx i) ((qx i).length)<;>rfl
   have o:A.inr .i64 (A.add (bk 0) 1):=P 0 yD;refine p1 ?_;exact⟨1,⟨yD,λ_=>by rw[hz],λh=>absurd h yD,λh=>absurd h yD,λh=>absurd h yD⟩,yD,yc⟩
 ·have m:A.lt (bk 1) 4=true:=by rw[c8];rfl
  have n:A.lt (bk 1) 4≠false:=by rw[m];decide
  have ag:(oU i).length<=1048576:=by rw[oU,bL];exact nV
  have fh:∀s∈oU i,s.length<=4294967295:=by intro s hs;obtain⟨x,hx,rfl⟩:=bP.1 hs;exact bQ (hi.v x hx).n yD
  have c:∀(s:S)(r:Int),E1=(s,r)->r≠0->(s,r)=gd E0 (gd E1 (gd E2 (gd E3 ([],0)))):=by intro s r e hr;rw[gd,if_neg (by rw[w0 yD];decide)];rw[gd,if_pos (by rw[e];exact hr),e]
  obtain⟨R,ai,v⟩:=lenOf aa;cbv;refine⟨λh1=>?_,λh1=>absurd h1 n⟩;cbv;refine lu X (λj=>j<=R/\E1=gJ lg (fC (oU i) j) ((oU i).drop j)) (λj=>R-j) 0 ⟨bB _,ap⟩ (λ(j:Nat)=>[(22,.int .i64 j)]) ?_;rintro j ⟨hj,d⟩;cbv;constructor<;>intro h1
  ·have h5:j<(oU i).length:=by obtain rfl:=X.a;simp only[v,SD]at h1;omega
   have al:=iX X.a aa h5;have o:=jX X.a h5;have a:A.bH (A.cell O (bk j) 0)=(oU i)[j]:=by rw[cellAt X.a aa h5,X.a];rfl
   have mZ:(A.bH (A.cell O (bk j) 0)).length<=4294967295:=by rw[a];exact fh _ (bu h5)
   have E:A.lt 0 (bk j)=true->A.inr .i64 (A.sub (bk j) 1):=by intro h;rw[c8]at h;have h:=of_decide_eq_true h;rw[X.a];simp only[SD]at *;omega
   have B:A.lt 0 (bk j)=true->A.idx (A.sub (bk j) 1) (A.len O):=by intro h;rw[c8]at h;have h:=of_decide_eq_true h;rw[X.a]at *;simp only[v,SD]at *;omega
   have H:A.lt 0 (bk j)=true->∃p,fC (oU i) j=some p/\A.bH (A.cell O (A.sub (bk j) 1) 0)=p:=by
    intro h;rw[c8]at h;have h:=of_decide_eq_true h;simp only[bz]at h;have z:j-1<(oU i).length:=yO;refine⟨(oU i)[j-1],?_,?_⟩
    ·rw[fC,if_neg yO];simp[cc,z]
    ·rw[show A.sub (bk j) 1=bk (j-1)by rw[X.a];simp only[SD];omega,cellAt X.a aa z,X.a];rfl
   have M:A.lt 0 (bk j)=false->fC (oU i) j=none:=by intro h;rw[c8]at h;have h:=of_decide_eq_false h;simp only[bz]at h;rw[fC,if_pos yO]
   have q:fC (oU i) (j+1)=some (oU i)[j]:=by rw[fC,if_neg yO];simp[cc,h5]
   obtain⟨sj,F⟩:∃x,x=(oU i)[j]:=⟨_,rfl⟩;rw[bF h5,<-F]at d;rw[<- F]at q a;refine p1 ?_;refine X.call (GP mZ λb hb=>?_);have hb:b=lg sj:=by rw[<- a];exact hb
   cases hz:A.lt 0 (bk j)with
   |true=>
    obtain⟨p,I,g⟩:=H hz;rw[I]at d;cbv;repeat' (first|apply bq|exact zf|(intro J;first|exact yB hz J|cbv)|apply bE)
    any_goals first|exact o|exact E hz|exact B hz
    ·have J:A.not b=true:=yA;rw[Y,hb]at J;refine h _ _ (c _ _ ?_ yD);rw[d,nw (yU J)];exact dR a.symm rfl
    ·have J:A.not b=false:=yA;have h3:A.seq (A.bH (A.cell O (bk j) 0)) (A.bH (A.cell O (A.sub (bk j) 1) 0))=true:=yA;rw[Y,hb]at J;rw[a,g,t]at h3;refine h _ _ (c _ _ ?_ yD);rw[d,wN (yU J) (yU h3)];exact dR a.symm rfl
    ·have J:A.not b=false:=yA;have h3:A.seq (A.bH (A.cell O (bk j) 0)) (A.bH (A.cell O (A.sub (bk j) 1) 0))=false:=yA;have h4:A.slt (A.bH (A.cell O (bk j) 0)) (A.bH (A.cell O (A.sub (bk j) 1) 0))=true:=yA;rw[Y,hb]at J;rw[a,g,t]at h3;rw[a,g,G]at h4;refine h _ _ (c _ _ ?_ yD);rw[d,wO (yU J) (yU h3) h4];exact dR a.symm rfl
    ·have J:A.not b=false:=yA;have h3:A.seq (A.bH (A.cell O (bk j) 0)) (A.bH (A.cell O (A.sub (bk j) 1) 0))=false:=yA;have h4:A.slt (A.bH (A.cell O (bk j) 0)) (A.bH (A.cell O (A.sub (bk j) 1) 0))=false:=yA;rw[Y,hb]at J;rw[a,g,t]at h3;rw[a,g,G]at h4;refine⟨j+1,⟨yO,?_⟩,yO,?_⟩
     ·rw[q,d,wL (yU J) (yU h3) h4]
     exact yc
   |false=>
    rw[M hz]at d;cbv;repeat' (first|apply bq|exact zf|(intro J;first|exact yB hz J|cbv)|apply bE)
    any_goals first|exact o
    ·have J:A.not b=true:=yA;rw[Y,hb]at J;refine h _ _ (c _ _ ?_ yD);rw[d,nw (yU J)];exact dR a.symm rfl
    ·have J:A.not b=false:=yA;rw[Y,hb]at J;refine⟨j+1,⟨yO,?_⟩,yO,?_⟩
     ·rw[q,d,wM (yU J)]
     exact yc
  ·have h5:j=R:=gY X.a v h1;rw[h5,ai,cd]at d;have hz:E1=([],0):=by rw[d];unfold gJ;cases fC (oU i) ((oU i).length)<;>rfl
   have o:A.inr .i64 (A.add (bk 1) 1):=P 1 yD;refine p1 ?_;exact⟨2,⟨yD,λ_=>w0 yD,λ_=>by rw[hz],λh=>absurd h yD,λh=>absurd h yD⟩,yD,yc⟩
 ·have m:A.lt (bk 2) 4=true:=by rw[c8];rfl
  have n:A.lt (bk 2) 4≠false:=by rw[m];decide
  have ag:(p5 i).length<=1048576:=by rw[p5,bL];exact nA
  have fh:∀s∈p5 i,s.length<=4294967295:=by intro s hs;obtain⟨x,hx,rfl⟩:=bP.1 hs;exact bQ (hi.a x hx).n yD
  have c:∀(s:S)(r:Int),E2=(s,r)->r≠0->(s,r)=gd E0 (gd E1 (gd E2 (gd E3 ([],0)))):=by intro s r e hr;rw[gd,if_neg (by rw[w0 yD];decide)];rw[gd,if_neg (by rw[w1 yD];decide)];rw[gd,if_pos (by rw[e];exact hr),e]
  obtain⟨Q,am,w⟩:=lenOf V;cbv;refine⟨λh1=>?_,λh1=>absurd h1 n⟩;cbv;refine lu X (λj=>j<=Q/\E2=gJ wa (fC (p5 i) j) ((p5 i).drop j)) (λj=>Q-j) 0 ⟨bB _,ar⟩ (λ(j:Nat)=>[(22,.int .i64 j)]) ?_;rintro j ⟨hj,d⟩;cbv;constructor<;>intro h1
  ·have h5:j<(p5 i).length:=by obtain rfl:=X.a;simp only[w,SD]at h1;omega
   have al:=iX X.a V h5;have o:=jX X.a h5;have a:A.bH (A.cell d2 (bk j) 0)=(p5 i)[j]:=by rw[cellAt X.a V h5,X.a];rfl
   have mZ:(A.bH (A.cell d2 (bk j) 0)).length<=4294967295:=by rw[a];exact fh _ (bu h5)
   have E:A.lt 0 (bk j)=true->A.inr .i64 (A.sub (bk j) 1):=by intro h;rw[c8]at h;have h:=of_decide_eq_true h;rw[X.a];simp only[SD]at *;omega
   have B:A.lt 0 (bk j)=true->A.idx (A.sub (bk j) 1) (A.len d2):=by intro h;rw[c8]at h;have h:=of_decide_eq_true h;rw[X.a]at *;simp only[w,SD]at *;omega
   have H:A.lt 0 (bk j)=true->∃p,fC (p5 i) j=some p/\A.bH (A.cell d2 (A.sub (bk j) 1) 0)=p:=by
    intro h;rw[c8]at h;have h:=of_decide_eq_true h;simp only[bz]at h;have z:j-1<(p5 i).length:=yO;refine⟨(p5 i)[j-1],?_,?_⟩
    ·rw[fC,if_neg yO];simp[cc,z]
    ·rw[show A.sub (bk j) 1=bk (j-1)by rw[X.a];simp only[SD];omega,cellAt X.a V z,X.a];rfl
   have M:A.lt 0 (bk j)=false->fC (p5 i) j=none:=by intro h;rw[c8]at h;have h:=of_decide_eq_false h;simp only[bz]at h;rw[fC,if_pos yO]
   have q:fC (p5 i) (j+1)=some (p5 i)[j]:=by rw[fC,if_neg yO];simp[cc,h5]
   obtain⟨sj,F⟩:∃x,x=(p5 i)[j]:=⟨_,rfl⟩;rw[bF h5,<-F]at d;rw[<- F]at q a;refine p1 ?_;refine X.call (Vy mZ λb hb=>?_);have hb:b=wa sj:=by rw[<- a];exact hb
   cases hz:A.lt 0 (bk j)with
   |true=>
    obtain⟨p,I,g⟩:=H hz;rw[I]at d;cbv;repeat' (first|apply bq|exact zf|(intro J;first|exact yB hz J|cbv)|apply bE)
    any_goals first|exact o|exact E hz|exact B hz
    ·have J:A.not b=true:=yA;rw[Y,hb]at J;refine h _ _ (c _ _ ?_ yD);rw[d,nw (yU J)];exact dR a.symm rfl
    ·have J:A.not b=false:=yA;have h3:A.seq (A.bH (A.cell d2 (bk j) 0)) (A.bH (A.cell d2 (A.sub (bk j) 1) 0))=true:=yA;rw[Y,hb]at J;rw[a,g,t]at h3;refine h _ _ (c _ _ ?_ yD);rw[d,wN (yU J) (yU h3)];exact dR a.symm rfl
    ·have J:A.not b=false:=yA;have h3:A.seq (A.bH (A.cell d2 (bk j) 0)) (A.bH (A.cell d2 (A.sub (bk j) 1) 0))=false:=yA;have h4:A.slt (A.bH (A.cell d2 (bk j) 0)) (A.bH (A.cell d2 (A.sub (bk j) 1) 0))=true:=yA;rw[Y,hb]at J;rw[a,g,t]at h3;rw[a,g,G]at h4;refine h _ _ (c _ _ ?_ yD);rw[d,wO (yU J) (yU h3) h4];exact dR a.symm rfl
    ·have J:A.not b=false:=yA;have h3:A.seq (A.bH (A.cell d2 (bk j) 0)) (A.bH (A.cell d2 (A.sub (bk j) 1) 0))=false:=yA;have h4:A.slt (A.bH (A.cell d2 (bk j) 0)) (A.bH (A.cell d2 (A.sub (bk j) 1) 0))=false:=yA;rw[Y,hb]at J;rw[a,g,t]at h3;rw[a,g,G]at h4;refine⟨j+1,⟨yO,?_⟩,yO,?_⟩
     ·rw[q,d,wL (yU J) (yU h3) h4]
     exact yc
   |false=>
    rw[M hz]at d;cbv;repeat' (first|apply bq|exact zf|(intro J;first|exact yB hz J|cbv)|apply bE)
    any_goals first|exact o
    ·have J:A.not b=true:=yA;rw[Y,hb]at J;refine h _ _ (c _ _ ?_ yD);rw[d,nw (yU J)];exact dR a.symm rfl
    ·have J:A.not b=false:=yA;rw[Y,hb]at J;refine⟨j+1,⟨yO,?_⟩,yO,?_⟩
     ·rw[q,d,wM (yU J)]
     exact yc
  ·have h5:j=Q:=gY X.a w h1;rw[h5,am,cd]at d;have hz:E2=([],0):=by rw[d];unfold gJ;cases fC (p5 i) ((p5 i).length)<;>rfl
   have o:A.inr .i64 (A.add (bk 2) 1):=P 2 yD;refine p1 ?_;exact⟨3,⟨yD,λ_=>w0 yD,λ_=>w1 yD,λ_=>by rw[hz],λh=>absurd h yD⟩,yD,yc⟩
 ·have m:A.lt (bk 3) 4=true:=by rw[c8];rfl
  have n:A.lt (bk 3) 4≠false:=by rw[m];decide
  have ag:(BR i).length<=1048576:=by rw[BR,bL];exact nD
  have fh:∀s∈BR i,s.length<=4294967295:=by intro s hs;obtain⟨x,hx,rfl⟩:=bP.1 hs;exact bQ (hi.d x hx).n yD
  have c:∀(s:S)(r:Int),E3=(s,r)->r≠0->(s,r)=gd E0 (gd E1 (gd E2 (gd E3 ([],0)))):=by intro s r e hr;rw[gd,if_neg (by rw[w0 yD];decide)];rw[gd,if_neg (by rw[w1 yD];decide)];rw[gd,if_neg (by rw[w2 yD];decide)];rw[gd,if_pos (by rw[e];exact hr),e]
  obtain⟨T,aj,u⟩:=lenOf W;cbv;refine⟨λh1=>?_,λh1=>absurd h1 n⟩;cbv;refine lu X (λj=>j<=T/\E3=gJ wa (fC (BR i) j) ((BR i).drop j)) (λj=>T-j) 0 ⟨bB _,aq⟩ (λ(j:Nat)=>[(22,.int .i64 j)]) ?_;rintro j ⟨hj,d⟩;cbv;constructor<;>intro h1
  ·have h5:j<(BR i).length:=by obtain rfl:=X.a;simp only[u,SD]at h1;omega
   have al:=iX X.a W h5;have o:=jX X.a h5;have a:A.bH (A.cell N (bk j) 0)=(BR i)[j]:=by rw[cellAt X.a W h5,X.a];rfl
   have mZ:(A.bH (A.cell N (bk j) 0)).length<=4294967295:=by rw[a];exact fh _ (bu h5)
   have E:A.lt 0 (bk j)=true->A.inr .i64 (A.sub (bk j) 1):=by intro h;rw[c8]at h;have h:=of_decide_eq_true h;rw[X.a];simp only[SD]at *;omega
   have B:A.lt 0 (bk j)=true->A.idx (A.sub (bk j) 1) (A.len N):=by intro h;rw[c8]at h;have h:=of_decide_eq_true h;rw[X.a]at *;simp only[u,SD]at *;omega
   have H:A.lt 0 (bk j)=true->∃p,fC (BR i) j=some p/\A.bH (A.cell N (A.sub (bk j) 1) 0)=p:=by
    intro h;rw[c8]at h;have h:=of_decide_eq_true h;simp only[bz]at h;have z:j-1<(BR i).length:=yO;refine⟨(BR i)[j-1],?_,?_⟩
    ·rw[fC,if_neg yO];simp[cc,z]
    ·rw[show A.sub (bk j) 1=bk (j-1)by rw[X.a];simp only[SD];omega,cellAt X.a W z,X.a];rfl
   have M:A.lt 0 (bk j)=false->fC (BR i) j=none:=by intro h;rw[c8]at h;have h:=of_decide_eq_false h;simp only[bz]at h;rw[fC,if_pos yO]
   have q:fC (BR i) (j+1)=some (BR i)[j]:=by rw[fC,if_neg yO];simp[cc,h5]
   obtain⟨sj,F⟩:∃x,x=(BR i)[j]:=⟨_,rfl⟩;rw[bF h5,<-F]at d;rw[<- F]at q a;refine p1 ?_;refine X.call (Vy mZ λb hb=>?_);have hb:b=wa sj:=by rw[<- a];exact hb
   cases hz:A.lt 0 (bk j)with
   |true=>
    obtain⟨p,I,g⟩:=H hz;rw[I]at d;cbv;repeat' (first|apply bq|exact zf|(intro J;first|exact yB hz J|cbv)|apply bE)
    any_goals first|exact o|exact E hz|exact B hz
    ·have J:A.not b=true:=yA;rw[Y,hb]at J;refine h _ _ (c _ _ ?_ yD);rw[d,nw (yU J)];exact dR a.symm rfl
    ·have J:A.not b=false:=yA;have h3:A.seq (A.bH (A.cell N (bk j) 0)) (A.bH (A.cell N (A.sub (bk j) 1) 0))=true:=yA;rw[Y,hb]at J;rw[a,g,t]at h3;refine h _ _ (c _ _ ?_ yD);rw[d,wN (yU J) (yU h3)];exact dR a.symm rfl
    ·have J:A.not b=false:=yA;have h3:A.seq (A.bH (A.cell N (bk j) 0)) (A.bH (A.cell N (A.sub (bk j) 1) 0))=false:=yA;have h4:A.slt (A.bH (A.cell N (bk j) 0)) (A.bH (A.cell N (A.sub (bk j) 1) 0))=true:=yA;rw[Y,hb]at J;rw[a,g,t]at h3;rw[a,g,G]at h4;refine h _ _ (c _ _ ?_ yD);rw[d,wO (yU J) (yU h3) h4];exact dR a.symm rfl
    ·have J:A.not b=false:=yA;have h3:A.seq (A.bH (A.cell N (bk j) 0)) (A.bH (A.cell N (A.sub (bk j) 1) 0))=false:=yA;have h4:A.slt (A.bH (A.cell N (bk j) 0)) (A.bH (A.cell N (A.sub (bk j) 1) 0))=false:=yA;rw[Y,hb]at J;rw[a,g,t]at h3;rw[a,g,G]at h4;refine⟨j+1,⟨yO,?_⟩,yO,?_⟩
     ·rw[q,d,wL (yU J) (yU h3) h4]
     exact yc
   |false=>
    rw[M hz]at d;cbv;repeat' (first|apply bq|exact zf|(intro J;first|exact yB hz J|cbv)|apply bE)
    any_goals first|exact o
    ·have J:A.not b=true:=yA;rw[Y,hb]at J;refine h _ _ (c _ _ ?_ yD);rw[d,nw (yU J)];exact dR a.symm rfl
    ·have J:A.not b=false:=yA;rw[Y,hb]at J;refine⟨j+1,⟨yO,?_⟩,yO,?_⟩
     ·rw[q,d,wM (yU J)]
     exact yc
  ·have h5:j=T:=gY X.a u h1;rw[h5,aj,cd]at d;have hz:E3=([],0):=by rw[d];unfold gJ;cases fC (BR i) ((BR i).length)<;>rfl
   have o:A.inr .i64 (A.add (bk 3) 1):=P 3 yD;refine p1 ?_;exact⟨4,⟨yD,λ_=>w0 yD,λ_=>w1 yD,λ_=>w2 yD,λ_=>by rw[hz]⟩,yD,yc⟩
 ·have m:A.lt (bk 4) 4=false:=by rw[c8];rfl
  have n:A.lt (bk 4) 4≠true:=by rw[m];decide
  cbv;refine⟨λh1=>absurd h1 n,λh1=>?_⟩;cbv;refine h [] 0 ?_;rw[gd,if_neg (by rw[w0 yD];decide),gd,if_neg (by rw[w1 yD];decide),gd,if_neg (by rw[w2 yD];decide),gd,if_neg (by rw[w3 yD];decide)]
end Go.VC.cG
namespace Go.VC
def Cd{α:Type}{e:α->Int}{n:α->S}:∀{l:List α},(∀x∈l,e x=0)->nU e n l=([],0)
 |[],_=>rfl
 |x::l,h=>by rw[nU,if_neg (by rw[h x yS];decide)];exact Cd λy d=>h y (by simp[d])
end Go.VC
namespace Go.VC.cG
open Go Go.VC Go.Proofs
section
variable {i:IF}{de c1 c2 a c:D}{b:S}{K:PV->List Ob->Prop}
def YQ(M:i.fit)(hc:kn i b c1 c2 a c)(h:∀(s:S)(r:Int),(s,r)=A2 i->K (.tup [.str s,.int .i64 r]) []):
 FT 247 [] [qK de b c1 c2 a c] K:=by
 refine en (cf 47) Tryz.func247 λA C L X=>?_;have R:(qx i).length<=4294967295:=by rw[qx,bL];exact M.ok.nt
 have T:(oU i).length<=4294967295:=by rw[oU,bL];exact M.ok.nv
 have nA:(p5 i).length<=4294967295:=by rw[p5,bL];exact M.ok.na
 cbv;refine X.call (Si M hc λd0 d1 d2 d3 I p u V=>?_);obtain⟨t,o⟩:∃G:S->Bool,∀s,(qx i).contains s=G s:=⟨λs=>(qx i).contains s,λ_=>rfl⟩;obtain⟨N,H⟩:∃G:S->Bool,∀s,(oU i).contains s=G s:=⟨λs=>(oU i).contains s,λ_=>rfl⟩;obtain⟨E0,v⟩:∃x,x=CA t (oU i):=⟨_,rfl⟩;obtain⟨Q,y⟩:∃x,x=CA (λs=>t s||N s) (p5 i):=⟨_,rfl⟩;have U:A2 i=gd E0 Q:=by rw[v,y];unfold A2;rw[show (qx i).contains=t from funext o,show (oU i).contains=N from funext H]
 rw[U]at h;obtain⟨m,w,f⟩:=lenOf p;cbv;refine lu X (λj=>j<=m/\E0=CA t ((oU i).drop j)) (λj=>m-j) 0 ⟨bB _,v⟩ (λ(j:Nat)=>[(18,.int .i64 j)]) ?_;rintro j ⟨P,g⟩;cbv;constructor<;>intro h1
 ·have h5:j<(oU i).length:=by obtain rfl:=X.a;simp only[f,SD]at h1;omega
  have B:=iX X.a p h5;have z:=jX X.a h5;have d:A.bH (A.cell d1 (bk j) 0)=(oU i)[j]:=by rw[cellAt X.a p h5,X.a];rfl
  obtain⟨F,n⟩:∃x,x=(oU i)[j]:=⟨_,rfl⟩;rw[bF h5,<-n,CA]at g;rw[<- n]at d;cbv;repeat' (first|apply bq|exact zf|(intro J;cbv)|apply bE|(refine X.call (Sa I R λb1 e=>?_);cbv))
  any_goals first|exact B|exact z
  ·have e:b1=t F:=by rw[<- o,<-d];exact e
   refine h _ 5 ?_;rw[if_pos (by rw[<- e,J])]at g;rw[g,gd,if_pos (show (5:Int)≠0 by decide)];exact dR d rfl
  ·have J:b1=false:=yA;have e:b1=t F:=by rw[<- o,<-d];exact e
   rw[if_neg (by rw[<- e,J];decide)]at g;refine⟨j+1,⟨by omega,g⟩,by omega,?_⟩;exact yc
 have h5:j=m:=gY X.a f h1;have O:E0=([],0):=by rw[g,h5,w,cd];rfl
 clear g h1 h5 P v;obtain⟨l,E,k⟩:=lenOf u;cbv;refine lu X (λj=>j<=l/\Q=CA (λs=>t s||N s) ((p5 i).drop j)) (λj=>l-j) 0 ⟨bB _,y⟩ (λ(j:Nat)=>[(31,.int .i64 j)]) ?_;rintro j ⟨P,g⟩;cbv;constructor<;>intro h1
 ·have h5:j<(p5 i).length:=by obtain rfl:=X.a;simp only[k,SD]at h1;omega
  have B:=iX X.a u h5;have z:=jX X.a h5;have d:A.bH (A.cell d2 (bk j) 0)=(p5 i)[j]:=by rw[cellAt X.a u h5,X.a];rfl
  obtain⟨F,n⟩:∃x,x=(p5 i)[j]:=⟨_,rfl⟩;rw[bF h5,<-n,CA]at g;rw[<- n]at d;cbv;repeat' (first|apply bq|exact zf|(intro J;cbv)|apply bE|(refine X.call (Sa I R λb1 e=>?_);cbv)|(refine X.call (Sa p T λb2 q=>?_);cbv))
  any_goals first|exact B|exact z
  all_goals have e:b1=t F:=by rw[<- o,<-d];exact e
  all_goals (try have q:b2=N F:=by rw[<- H,<-d];exact q)
  ·refine h _ 5 ?_;rw[if_pos (by rw[<- q,J,wX])]at g;rw[O,g,gd,if_neg yD];exact dR d rfl
  ·have J:b2=false:=yA;have h3:b1=false:=yA;rw[if_neg (by rw[<- e,<-q,J,h3];decide)]at g;refine⟨j+1,⟨by omega,g⟩,by omega,?_⟩;exact yc
  ·have J:b1=true:=yA;refine h _ 5 ?_;rw[if_pos (by rw[<- e,J,Bool.true_or])]at g;rw[O,g,gd,if_neg (by decide)];exact dR d rfl
 have h5:j=l:=gY X.a k h1;have W:Q=([],0):=by rw[g,h5,E,cd];rfl
 clear g h1 h5 P y;cbv;refine h [] 0 ?_;rw[O,W];rfl
def YP{env:List IF}(he:de=bA dC env)(ek:eH env)(E:i.fit)(hc:kn i b c1 c2 a c)(h:∀(s:S)(r:Int),(s,r)=mQ env i->K (.tup [.str s,.int .i64 r]) []):
 FT 248 [] [qK de b c1 c2 a c] K:=by
 refine en (cf 64) Tryz.func248 λA C L X=>?_;have Y:=fz X.a;have Z:=qH X.a;have nt:=E.nt;have nv:=E.nv;have na:=E.na;obtain⟨E0,z⟩:∃x,x=nU (xi env i) TE.name i.types:=⟨_,rfl⟩;obtain⟨N,B⟩:∃x,x=nU (Bt env) VE.name i.values:=⟨_,rfl⟩;obtain⟨E2,F⟩:∃x,x=nU (pz env) AE.name i.aliases:=⟨_,rfl⟩;unfold mQ at h;rw[<- z,<-B,<-F]at h;obtain⟨o,p⟩:∃n,n=i.types.length:=⟨_,rfl⟩;have f:Std.len c1=bk o:=by rw[hc.2.1,da,p];rfl
 cbv;refine lp X (λj=>j<=o/\E0=nU (xi env i) TE.name (i.types.drop j)) (λj=>o-j) 0 ⟨bB _,z⟩ (λ(j:Nat)=>⟨[(17,.int .i64 j),(16,.int .i64 (A.len c1)),(15,.lst 136 c1),(1,.box 0 0)],[.box [.lst 97 de,.str b,.lst 136 c1,.lst 91 c2,.lst 210 a,.lst 213 c]]⟩) ?_;rintro j ⟨H,d⟩;cbv;constructor<;>intro h1
 ·have h5:j<i.types.length:=lY X.a f h1;have y:=mz X.a hc.2.1 h5;have G:=y.1;have w:=iX X.a hc.2.1 h5;have t:=jX X.a h5;rw[bF h5,nU]at d;cbv;repeat' (first|apply bq|exact zf|(intro J;cbv)|apply bE)
  any_goals exact w
  refine X.call (YB he ek E (E.t _ (bu h5)) hc y λk v=>?_);rw[<- v]at d;cbv;repeat' (first|apply bq|exact zf|(intro J;cbv)|apply bE)
  any_goals exact t
  ·have J:A.not (A.eq k 0)=true:=yA;rw[Y,Z]at J;rw[if_pos (yU J)]at d;refine h _ k ?_;rw[d,gd,if_pos (show k≠0 by simpa using J)];exact dR G rfl
  ·have J:A.not (A.eq k 0)=false:=by assumption
   rw[Y,Z]at J;have h4:k=0:=yU J;rw[if_neg (by rw[h4];decide)]at d;exact⟨j+1,⟨yO,d⟩,yO,yc⟩
 have h5:j=o:=gY X.a f h1;have I:E0=([],0):=by rw[d,h5,p,cd];rfl
 clear d h1 h5 H z;obtain⟨l,q⟩:∃n,n=i.values.length:=⟨_,rfl⟩;have g:Std.len c2=bk l:=by rw[hc.2.2.1,da,q];rfl
 cbv;refine lp X (λj=>j<=l/\N=nU (Bt env) VE.name (i.values.drop j)) (λj=>l-j) 0 ⟨bB _,B⟩ (λ(j:Nat)=>⟨[(34,.int .i64 j),(33,.int .i64 (A.len c2)),(32,.lst 91 c2),(1,.box 0 0)],[.box [.lst 97 de,.str b,.lst 136 c1,.lst 91 c2,.lst 210 a,.lst 213 c]]⟩) ?_;rintro j ⟨H,d⟩;cbv;constructor<;>intro h1
 ·have h5:j<i.values.length:=lY X.a g h1;have y:=oX X.a hc.2.2.1 h5;have G:=y.1;have w:=iX X.a hc.2.2.1 h5;have t:=jX X.a h5;rw[bF h5,nU]at d;cbv;repeat' (first|apply bq|exact zf|(intro J;cbv)|apply bE)
  any_goals exact w
  refine X.call (YA he ek (E.v _ (bu h5)) y λk v=>?_);rw[<- v]at d;cbv;repeat' (first|apply bq|exact zf|(intro J;cbv)|apply bE)
  any_goals exact t
  ·have J:A.not (A.eq k 0)=true:=yA;rw[Y,Z]at J;rw[if_pos (yU J)]at d;refine h _ k ?_;rw[I,d,gd,if_neg yD,gd,if_pos (show k≠0 by simpa using J)];exact dR G rfl
  ·have J:A.not (A.eq k 0)=false:=yA;rw[Y,Z]at J;have h4:k=0:=yU J;rw[if_neg (by rw[h4];decide)]at d;exact⟨j+1,⟨yO,d⟩,yO,yc⟩
 have h5:j=l:=gY X.a g h1;have M:N=([],0):=by rw[d,h5,q,cd];rfl
 clear d h1 h5 H B;obtain⟨m,u⟩:∃n,n=i.aliases.length:=⟨_,rfl⟩;have e:Std.len a=bk m:=by rw[hc.2.2.2.1,da,u];rfl
 cbv;refine lp X (λj=>j<=m/\E2=nU (pz env) AE.name (i.aliases.drop j)) (λj=>m-j) 0 ⟨bB _,F⟩ (λ(j:Nat)=>⟨[(51,.int .i64 j),(50,.int .i64 (A.len a)),(49,.lst 210 a),(1,.box 0 0)],[.box [.lst 97 de,.str b,.lst 136 c1,.lst 91 c2,.lst 210 a,.lst 213 c]]⟩) ?_;rintro j ⟨H,d⟩;cbv;constructor<;>intro h1
 ·have h5:j<i.aliases.length:=lY X.a e h1;have y:=zr X.a hc.2.2.2.1 h5;have G:=y.1;have w:=iX X.a hc.2.2.2.1 h5;have t:=jX X.a h5;rw[bF h5,nU]at d;cbv;repeat' (first|apply bq|exact zf|(intro J;cbv)|apply bE)
  any_goals exact w
  refine X.call (Yz he ek (E.a _ (bu h5)) y λk v=>?_);rw[<- v]at d;cbv;repeat' (first|apply bq|exact zf|(intro J;cbv)|apply bE)
  any_goals exact t
  ·have J:A.not (A.eq k 0)=true:=yA;rw[Y,Z]at J;rw[if_pos (yU J)]at d;refine h _ k ?_;rw[I,M,d,gd,if_neg yD,gd,if_neg yD];exact dR G rfl
  ·have J:A.not (A.eq k 0)=false:=by assumption
   rw[Y,Z]at J;have h4:k=0:=yU J;rw[if_neg (by rw[h4];decide)]at d;exact⟨j+1,⟨yO,d⟩,yO,yc⟩
 have h5:j=m:=gY X.a e h1;have O:E2=([],0):=by rw[d,h5,u,cd];rfl
 clear d h1 h5 H F;cbv;refine h [] 0 ?_;rw[I,M,O];rfl
end
end Go.VC.cG
namespace Go.VC
open Go
section
section
variable {P:Program}{tt:TypeId->Option TI}{f:FuncId}{args:List PV}{K:PV->List Ob->Prop}
def FC.Og{e:TypeId}(g:∀args w,(callFunc f args).run P w= .ok (.enter f args) w)
 (h:∀E Pp w vals,WR tt E Pp [] w->eJ tt E Pp vals args->Calls P f ⟨vals⟩ w λe' w'=>e'= .returned (.slice none 0 0)/\w'=w) (hK:K (.row e 0) [.row e (.list []) true]):FC P tt f [] args K:=by
 intro E Pp w vals c k;refine .inl ⟨g _ _,(h E Pp w vals c k).mono ?_⟩;rintro e' w' ⟨rfl,rfl⟩;have d:E=[]:=bY (by have:=c.len;simpa using this);subst d;refine⟨_,[.row0],Pp,[.row e (.list []) true],.row e 0,rfl,λi x n=>yE n,λ_ _ h=>h,?_,.row0 _ _ rfl,hK,Fr.refl _ _,λ_ _ h=>.inl h,?_⟩
 ·refine⟨rfl,c.pi,?_,?_,c.gl⟩
  ·intro i o a hl;cases i with
   |succ i=>simp at a
   |zero=>simp at a;subst a;exact⟨_,rfl,rfl⟩
  ·intro i j oi oj ri rj b m l _ _ _ _ _ _;cases i<;>cases j<;>simp at m l ⊢
 ·intro i o ri b a hl hr hb;cases i with
  |succ i=>simp at a
  |zero=>simp at hr;subst hr;simp[RI.cZ]at hb
end
def HG(i:IF):List DE->S×Int
 |[]=>([],0)
 |x::l=>if(qx i++oU i++p5 i).contains x.name=false then(x.name,6)else if 65536<x.note.length then(x.name,7)else HG i l
def ya(i:IF):S×Int:=HG i i.deprecated
end
end Go.VC
namespace Go.VC.cG
open Go Go.VC Go.Proofs
section
variable {K:PV->List Ob->Prop}
def Yo{n:Nat}(u:n<=4294967296)(h:K (.row 9 0) [.row 9 (.list []) true]):FT 304 [] [.lf,.int .i64 (bk n)] K:=by
 by_cases h0:n=0
 ·subst h0;refine FC.Og (enters_of Tryz.func304 (by kernel_rfl) rfl) (λE Pp w vals q b=>?_) h;cases b with|cons v1 _ _ _ h1 b=>cases b with|cons v2 _ _ _ J b=>
  cases b;cases h1;cases J;refine(Any8.slices_Grow_room Tryz.DT none 0 0 0 w yD yD yD yD).mono ?_;rintro e w' ⟨rfl,rfl⟩;exact⟨rfl,rfl⟩
 ·refine FC.newRow (e:=9) (rows:=[]) (enters_of Tryz.func304 (by kernel_rfl) rfl) (λE Pp w vals q b=>?_) h;cases b with|cons v1 _ _ _ h1 b=>cases b with|cons v2 _ _ _ J b=>
  cases b;cases h1;cases J;obtain⟨ti,j,k,c,m⟩:∃ti,tt 9=some ti/\ti.bT=[.str]/\ti.bytes=16/\ti.agg=false:=⟨_,rfl,rfl,rfl,rfl⟩;obtain⟨p,z,_,o,hs,hb,hz,s,g,_⟩:=(k9 9 ti j).info;have d:p.size=1:=by rw[hs,k];rfl
  have l:z.cells.size=1:=by rw[g.2 m];rfl
  refine(Any8.slices_Grow_grow Tryz.DT p z o hz (by rw[d];decide) none 0 0 n [] w yD yO ?_ yO yS (λ_=>rfl) (λa ha=>yC ha)).mono ?_
  ·rw[hb,c];omega
  rintro e w' ⟨rfl,rfl⟩;refine⟨_,1,_,rfl,rfl,bB _,?_,?_⟩
  ·rw[Mf];show grownCap w (0+n) 0 9*1<=Nr _;have r:=grownCap_ge w (0+n) 0 9;show grownCap w (0+n) 0 9*1<=Nr ([].toArray++Builtin.zeroCells z.cells (0+n-0)++Builtin.zeroCells z.cells (grownCap w (0+n) 0 9-(0+n)));generalize grownCap w (0+n) 0 9=G at r ⊢;simp only[Array.size_append,Builtin.zeroCells,Cy,Array.size_range,l];simp;omega
  ·intro i row t;simp at t
def TV:ea:={tt:=tt,n:=36,own:=[6],live:=[304]}
def Yy{b:List (List S)}{d:D}(p:d=bA Qd b)(hl:b.length<=16)(B:∀l∈b,l.length<=1048576)(h:∀r,r=bA encS b.flatten->K (.row 9 0) [.row 9 r true]):
 FT 284 [] [.lst 68 d] K:=by
 refine eo TV Tryz.func284 λA C L X=>?_;obtain⟨i,m,a⟩:=lenOf p;cbv;refine lu X (λj=>j.1<=i/\j.2=((b.take j.1).map iS).sum/\j.2<=1048576*j.1) (λj=>i-j.1) (0,0) ⟨bB _,rfl,bB _⟩ (λ(j:Nat×Nat)=>[(11,.int .i64 j.1),(3,.int .i64 j.2)]) ?_;rintro⟨j,k⟩ ⟨I,hk,z⟩;simp only at I hk z;have G:A.lt (bk k) 0=false:=by rw[X.a];simp only[SD];omega
 cbv;constructor<;>intro h1
 ·have h5:j<b.length:=lY X.a a h1;have w:=iX X.a p h5;have t:=jX X.a h5;have c:A.cell d (bk j) 0=bA encS b[j]:=by rw[cellAt X.a p h5];rfl
  have e:A.len (A.cell d (bk j) 0)=bk b[j].length:=by rw[c,X.a,da];rfl
  have N:=B _ (bu h5);have g:A.add (bk k) (A.len (A.cell d (bk j) 0))=bk (k+b[j].length):=by rw[e,X.a];rfl
  have x:A.inr .i64 (A.add (bk k) (A.len (A.cell d (bk j) 0))):=by rw[g,X.a];simp only[SD];omega
  have o:A.lt (A.add (bk k) (A.len (A.cell d (bk j) 0))) 0=false:=by rw[g,X.a];simp only[SD];omega
  cbv;repeat' (first|apply bq|exact zf|(intro J;first|exact yB o J|cbv)|apply bE)
  any_goals first|exact w|exact t|exact x
  obtain⟨F,v⟩:∃F,F=k+b[j].length:=⟨_,rfl⟩;rw[<- v]at g;refine⟨(j+1,F),⟨yP,?_,yP⟩,yP,?_⟩
  ·simp only;rw[cb h5,cj,dQ,<-hk,v];simp
  exact yc;all_goals exact g
 have h5:j=i:=gY X.a a h1;have y:k<=4294967296:=yO;have n:k=(b.map iS).sum:=by rw[hk,h5,m,bD]
 clear hk h1;cbv;refine X.call (Yo y ?_);cbv;refine lP X (λj=>j.1<=i/\j.2=bA encS (b.take j.1).flatten) (λj=>i-j.1) (0,.list []) ⟨bB _,rfl⟩ [0] (λ(j:Nat×D)=>⟨[(27,.int .i64 j.1),(26,.int .i64 (A.len d)),(25,.lst 68 d),(6,.row 9 0)],[.row 9 j.2 true]⟩) ?_;rintro⟨q,r⟩ ⟨H,hr⟩;simp only at H hr;cbv;constructor<;>intro h1
 ·have h5:q<b.length:=lY X.a a h1;have w:=iX X.a p h5;have t:=jX X.a h5;have c:A.cell d (bk q) 0=bA encS b[q]:=by rw[cellAt X.a p h5];rfl
  have e:A.len (A.cell d (bk q) 0)=bk b[q].length:=by rw[c,X.a,da];rfl
  have u:(b.take (q+1)).flatten=(b.take q).flatten++b[q]:=by rw[cb h5,List.flatten_append];simp
  have E:((b.take (q+1)).flatten).length<=k:=by
   rw[n,List.length_flatten];have:(b.map iS).sum=((b.take (q+1)).map iS).sum+((b.drop (q+1)).map iS).sum:=by rw[<- dQ,<-cj,cX]
   omega
  have s:A.app r (A.cell d (bk q) 0)=bA encS (b.take (q+1)).flatten:=by rw[u,c,X.a,hr];exact cB
  have M:A.gh (A.add (A.len r) (A.len (A.cell d (bk q) 0))) 4294967296:=by rw[e,X.a,hr,da];rw[u,bt]at E;simp only[SD];omega
  refine p1 ?_;exact⟨(q+1,_),⟨yP,s⟩,yP,[0],rfl,yc⟩
 have h5:q=i:=gY X.a a h1;rw[h5,m,bD]at hr;cbv;exact h r hr
def YO{i:IF}(p:i.fit){de:D}{z:S}{c1 c2 w e:D}(hc:kn i z c1 c2 w e)(h:∀(s:S)(r:Int),(s,r)=ya i->K (.tup [.str s,.int .i64 r]) []):
 FT 249 [] [qK de z c1 c2 w e] K:=by
 refine en Xq Tryz.func249 λA C L X=>?_;have M:(qx i).length<=1048576:=by rw[qx,bL];exact p.nt
 have I:(oU i).length<=1048576:=by rw[oU,bL];exact p.nv
 have O:(p5 i).length<=1048576:=by rw[p5,bL];exact p.na
 cbv;refine X.call (Si p hc λd0 E d2 F y u q G=>?_);obtain⟨c,d⟩:∃n,n=i.deprecated.length:=⟨_,rfl⟩;have a:Std.len e=bk c:=by rw[hc.2.2.2.2,da,d];rfl
 cbv;refine X.Ld (λ(j:Nat)=>⟨[(17,.int .i64 j),(16,.int .i64 (A.len e)),(15,.lst 213 e),(5,.box 1 0),(4,.cP [.lst 9 d0,.lst 9 E,.lst 9 d2,.lst 9 F] 0),(1,.box 0 0)],[.box [.lst 97 de,.str z,.lst 136 c1,.lst 91 c2,.lst 210 w,.lst 213 e],.box [.cy 185 [],.cy 263 [],.cy 295 [],.cy 295 []]]⟩) (λj=>j<=c/\ya i=HG i (i.deprecated.drop j)) (λj=>c-j) 0 ⟨bB _,rfl⟩ ?_ ?_
 ·exact⟨[],[1],[0,2],rfl,yc⟩
 rintro j ⟨N,g⟩;cbv;constructor<;>intro h1
 ·have h5:j<i.deprecated.length:=lY X.a a h1;have B:=Mc X.a hc.2.2.2.2 h5;have H:=iX X.a hc.2.2.2.2 h5;have v:A.inr .i64 (A.add (bk j) 1):=by rw[X.a];exact fm h5 (by have:=p.nd;omega)
  have m:A.lit [[d0],[E],[d2]]=bA Qd [qx i,oU i,p5 i]:=by rw[X.a,y,u,q];rfl
  have o:∀l∈[qx i,oU i,p5 i],l.length<=1048576:=by intro l hl;simp at hl;rcases hl with rfl|rfl|rfl<;>assumption
  rw[bF h5,HG]at g;refine p1 ?_;refine X.call (Yy m (show (3:Nat)<=16 by decide) o λr hr=>?_);have hr:r=bA encS (qx i++oU i++p5 i):=by rw[hr];simp
  have x:(qx i++oU i++p5 i).length<=4294967295:=yL;have Y:=fz X.a;have k:A.lt 65536 (A.dr (A.bH (A.cell e (bk j) 1)))=decide (65536<i.deprecated[j].note.length):=by rw[B.2,X.a];show decide ((65536:Int)<(i.deprecated[j].note.length:Int))=_;rw[decide_eq_decide];omega
  have t:A.bH (A.cell e (bk j) 0)=i.deprecated[j].name:=B.1;cbv;refine X.call (Sa hr x λb hb=>?_);have hb:b=(qx i++oU i++p5 i).contains i.deprecated[j].name:=by rw[<- t];exact hb
  rw[show List.elem i.deprecated[j].name (qx i++oU i++p5 i)=b from hb.symm]at g;clear hb;cbv;repeat' (first|apply bq|exact zf|(intro J;cbv)|apply bE)
  any_goals exact v
  ·have J:A.not b=true:=yA;rw[Y]at J;rw[if_pos (yU J)]at g;refine h _ 6 ?_;rw[g];exact dR t rfl
  ·have J:A.not b=false:=yA;have h3:A.lt 65536 (A.dr (A.bH (A.cell e (bk j) 1)))=true:=yA;rw[Y]at J;rw[k]at h3;rw[if_neg (yU J),if_pos (of_decide_eq_true h3)]at g;refine h _ 7 ?_;rw[g];exact dR t rfl
  ·have J:A.not b=false:=yA;have h3:A.lt 65536 (A.dr (A.bH (A.cell e (bk j) 1)))=false:=yA;rw[Y]at J;rw[k]at h3;rw[if_neg (yU J),if_neg (of_decide_eq_false h3)]at g;exact⟨j+1,⟨yO,g⟩,yO,[],[],[0,1],rfl,yc⟩
 ·have h5:j=c:=gY X.a a h1;cbv;refine h [] 0 ?_;rw[g,h5,d,cd];rfl
end
end Go.VC.cG
namespace Go.VC
noncomputable def qA(env:List IF)(i:IF):S×Int:=gd ([],Ea i) (gd (yb i) (gd (A2 i) (gd (mQ env i) (gd (ya i) ([],0)))))
noncomputable def km(env:List IF)(p:S):S×Int:=match ik env p with
 |none=>([],6)
 |some i=>qA env i
end Go.VC
namespace Go.VC.cG
open Go Go.VC Go.Proofs
def VL{env:List IF}{de:D}(he:de=bA dC env)(ek:eH env)(eO:∀i∈env,i.fit){p:S}{K:PV->List Ob->Prop}(h:∀(s:S)(r:Int),(s,r)=km env p->K (.tup [.str s,.int .i64 r]) []):
 FT 198 [] [.lst 97 de,.str p] K:=by
 refine en (cf 50) Tryz.func198 λA C L X=>?_;have Y:=fz X.a;have Z:=qH X.a;have c8:=I6 X.a;have g:∀k:Nat,k<5->A.inr .i64 (A.add (bk k) 1):=by rw[X.a];exactλk hk=>fm hk yD
 unfold km at h;cbv;refine X.call (F43 he ek rfl λF c1 c2 w E b hc hb=>?_);cbv;repeat' (first|apply bq|exact zf|(intro J;cbv)|apply bE)
 ·have J:A.not b=true:=J;rw[Y,hb]at J;refine h _ _ ?_;rw[show ik env p=none by simpa using J]
 have J:A.not b=false:=J;rw[Y,hb]at J;obtain⟨i,G⟩:∃i,ik env p=some i:=eQ.1 (yU J);have y:i.fit:=eO i (eb G);rw[G]at hc h;simp only[eR]at hc;clear J hb;have h:∀(s:S)(r:Int),(s,r)=qA env i->K (.tup [.str s,.int .i64 r]) []:=h;obtain⟨m,t⟩:∃x,x=yb i:=⟨_,rfl⟩;obtain⟨E2,z⟩:∃x,x=A2 i:=⟨_,rfl⟩;obtain⟨j,v⟩:∃x,x=mQ env i:=⟨_,rfl⟩;obtain⟨l,u⟩:∃x,x=ya i:=⟨_,rfl⟩;obtain⟨E0,q⟩:∃x,x=(([],Ea i):S×Int):=⟨_,rfl⟩;unfold qA at h;rw[<- q,<-t,<-z,<-v,<-u]at h;cbv;refine X.loop (λ(k:Nat)=>⟨[(36,.int .i64 k),(35,.int .i64 5),(34,.cP [.cy 1000245 [.agg [.lst 97 de,.str F,.lst 136 c1,.lst 91 c2,.lst 210 w,.lst 213 E]],.cy 1000246 [.agg [.lst 97 de,.str F,.lst 136 c1,.lst 91 c2,.lst 210 w,.lst 213 E]],.cy 1000247 [.agg [.lst 97 de,.str F,.lst 136 c1,.lst 91 c2,.lst 210 w,.lst 213 E]],.cy 1000248 [.agg [.lst 97 de,.str F,.lst 136 c1,.lst 91 c2,.lst 210 w,.lst 213 E]],.cy 1000249 [.agg [.lst 97 de,.str F,.lst 136 c1,.lst 91 c2,.lst 210 w,.lst 213 E]]] 1000003)],[]⟩) (λk=>k<=5/\(0<k->E0.2=0)/\(1<k->m.2=0)/\(2<k->E2.2=0)/\(3<k->j.2=0)/\(4<k->l.2=0)) (λk=>5-k) 0 ⟨bB _,yS,yS,yS,yS,yS⟩ ?_ ?_
 ·(cbv;repeat' apply bq);all_goals try first|trivial|rfl|(rw[X.a];rfl)
 rintro k ⟨hk,w0,n,B,H,M⟩;have I:k=0\/k=1\/k=2\/k=3\/k=4\/k=5:=yO;rcases I with rfl|rfl|rfl|rfl|rfl|rfl
 ·have a:A.lt (bk 0) 5=true:=by rw[c8];rfl
  have c:A.lt (bk 0) 5≠false:=by rw[a];decide
  have d:∀(s:S)(r:Int),(s,r)=E0->r≠0->(s,r)=gd E0 (gd m (gd E2 (gd j (gd l ([],0))))):=by intro s r e hr;rw[gd,if_pos (by rw[<- e];exact hr),e]
  have f:A.inr .i64 (A.add (bk 0) 1):=g 0 yD;cbv;refine⟨λh1=>?_,λh1=>absurd h1 c⟩;cbv;refine X.call (YS y hc λr0 hr=>?_);have hr:(([]:S),r0)=E0:=by rw[q,hr]
  cbv;repeat' (first|apply bq|exact zf|(intro J;cbv)|apply bE)
  any_goals exact f
  ·have J:A.not (A.eq r0 0)=true:=yA;rw[Y,Z]at J;exact h _ _ (d _ _ hr (yU J))
  ·have J:A.not (A.eq r0 0)=false:=by assumption
   rw[Y,Z]at J;have hz:E0.2=0:=by rw[<- hr];simpa using J
   refine⟨1,⟨yD,λ_=>hz,λh=>absurd h yD,λh=>absurd h yD,λh=>absurd h yD,λh=>absurd h yD⟩,yD,?_⟩
   (cbv;repeat' apply bq);all_goals try first|trivial|rfl|(rw[X.a];rfl)
 ·have a:A.lt (bk 1) 5=true:=by rw[c8];rfl
  have c:A.lt (bk 1) 5≠false:=by rw[a];decide
  have d:∀(s:S)(r:Int),(s,r)=m->r≠0->(s,r)=gd E0 (gd m (gd E2 (gd j (gd l ([],0))))):=by intro s r e hr;rw[gd,if_neg (by rw[w0 yD];decide)];rw[gd,if_pos (by rw[<- e];exact hr),e]
  have f:A.inr .i64 (A.add (bk 1) 1):=g 1 yD;cbv;refine⟨λh1=>?_,λh1=>absurd h1 c⟩;cbv;refine X.call (YR y hc λo r0 hr=>?_);have hr:(o,r0)=m:=by rw[t,hr]
  cbv;repeat' (first|apply bq|exact zf|(intro J;cbv)|apply bE)
  any_goals exact f
  ·have J:A.not (A.eq r0 0)=true:=yA;rw[Y,Z]at J;exact h _ _ (d _ _ hr (yU J))
  ·have J:A.not (A.eq r0 0)=false:=by assumption
   rw[Y,Z]at J;have hz:m.2=0:=by rw[<- hr];simpa using J
   refine⟨2,⟨yD,λ_=>w0 yD,λ_=>hz,λh=>absurd h yD,λh=>absurd h yD,λh=>absurd h yD⟩,yD,?_⟩
   (cbv;repeat' apply bq);all_goals try first|trivial|rfl|(rw[X.a];rfl)
 ·have a:A.lt (bk 2) 5=true:=by rw[c8];rfl
  have c:A.lt (bk 2) 5≠false:=by rw[a];decide
  have d:∀(s:S)(r:Int),(s,r)=E2->r≠0->(s,r)=gd E0 (gd m (gd E2 (gd j (gd l ([],0))))):=by intro s r e hr;rw[gd,if_neg (by rw[w0 yD];decide)];rw[gd,if_neg (by rw[n yD];decide)];rw[gd,if_pos (by rw[<- e];exact hr),e]
  have f:A.inr .i64 (A.add (bk 2) 1):=g 2 yD;cbv;refine⟨λh1=>?_,λh1=>absurd h1 c⟩;cbv;refine X.call (YQ y hc λo r0 hr=>?_);have hr:(o,r0)=E2:=by rw[z,hr]
  cbv;repeat' (first|apply bq|exact zf|(intro J;cbv)|apply bE)
  any_goals exact f
  ·have J:A.not (A.eq r0 0)=true:=yA;rw[Y,Z]at J;exact h _ _ (d _ _ hr (yU J))
  ·have J:A.not (A.eq r0 0)=false:=yA;rw[Y,Z]at J;have hz:E2.2=0:=by rw[<- hr];simpa using J
   refine⟨3,⟨yD,λ_=>w0 yD,λ_=>n yD,λ_=>hz,λh=>absurd h yD,λh=>absurd h yD⟩,yD,?_⟩
   (cbv;repeat' apply bq);all_goals try first|trivial|rfl|(rw[X.a];rfl)
 ·have a:A.lt (bk 3) 5=true:=by rw[c8];rfl
  have c:A.lt (bk 3) 5≠false:=by rw[a];decide
  have d:∀(s:S)(r:Int),(s,r)=j->r≠0->(s,r)=gd E0 (gd m (gd E2 (gd j (gd l ([],0))))):=by intro s r e hr;rw[gd,if_neg (by rw[w0 yD];decide)];rw[gd,if_neg (by rw[n yD];decide)];rw[gd,if_neg (by rw[B yD];decide)];rw[gd,if_pos (by rw[<- e];exact hr),e]
  have f:A.inr .i64 (A.add (bk 3) 1):=g 3 yD;cbv;refine⟨λh1=>?_,λh1=>absurd h1 c⟩;cbv;refine X.call (YP he ek y hc λo r0 hr=>?_);have hr:(o,r0)=j:=by rw[v,hr]
  cbv;repeat' (first|apply bq|exact zf|(intro J;cbv)|apply bE)
  any_goals exact f
  ·have J:A.not (A.eq r0 0)=true:=yA;rw[Y,Z]at J;exact h _ _ (d _ _ hr (yU J))
  ·have J:A.not (A.eq r0 0)=false:=yA;rw[Y,Z]at J;have hz:j.2=0:=by rw[<- hr];simpa using J
   refine⟨4,⟨yD,λ_=>w0 yD,λ_=>n yD,λ_=>B yD,λ_=>hz,λh=>absurd h yD⟩,yD,?_⟩
   (cbv;repeat' apply bq);all_goals try first|trivial|rfl|(rw[X.a];rfl)
 ·have a:A.lt (bk 4) 5=true:=by rw[c8];rfl
  have c:A.lt (bk 4) 5≠false:=by rw[a];decide
  have d:∀(s:S)(r:Int),(s,r)=l->r≠0->(s,r)=gd E0 (gd m (gd E2 (gd j (gd l ([],0))))):=by intro s r e hr;rw[gd,if_neg (by rw[w0 yD];decide)];rw[gd,if_neg (by rw[n yD];decide)];rw[gd,if_neg (by rw[B yD];decide)];rw[gd,if_neg (by rw[H yD];decide)];rw[gd,if_pos (by rw[<- e];exact hr),e]
  have f:A.inr .i64 (A.add (bk 4) 1):=g 4 yD;cbv;refine⟨λh1=>?_,λh1=>absurd h1 c⟩;cbv;refine X.call (YO y hc λo r0 hr=>?_);have hr:(o,r0)=l:=by rw[u,hr]
  cbv;repeat' (first|apply bq|exact zf|(intro J;cbv)|apply bE)
  any_goals exact f
  ·have J:A.not (A.eq r0 0)=true:=yA;rw[Y,Z]at J;exact h _ _ (d _ _ hr (yU J))
  ·have J:A.not (A.eq r0 0)=false:=yA;rw[Y,Z]at J;have hz:l.2=0:=by rw[<- hr];simpa using J
   refine⟨5,⟨yD,λ_=>w0 yD,λ_=>n yD,λ_=>B yD,λ_=>H yD,λ_=>hz⟩,yD,?_⟩
   (cbv;repeat' apply bq);all_goals try first|trivial|rfl|(rw[X.a];rfl)
 ·have a:A.lt (bk 5) 5=false:=by rw[c8];rfl
  have c:A.lt (bk 5) 5≠true:=by rw[a];decide
  cbv;refine⟨λh1=>absurd h1 c,λh1=>?_⟩;cbv;refine h [] 0 ?_;rw[gd,if_neg (by rw[w0 yD];decide),gd,if_neg (by rw[n yD];decide),gd,if_neg (by rw[B yD];decide),gd,if_neg (by rw[H yD];decide),gd,if_neg (by rw[M yD];decide)]
end Go.VC.cG
namespace Go.VC
inductive LR (g:S->List S):S->S->Prop
 |one {a b:S}:b∈g a->LR g a b
 |more {a b c:S}:LR g a b->c∈g b->LR g a c
structure GB (g:S->List S) (T:Nat):Prop where
 sum:∀L:List S,L.Nodup->(L.map λs=>(g s).length).sum<=T
 all:∃PM:List S,PM.length<=T/\∀s e,e∈g s->e∈PM
def GB.one{g:S->List S}{T:Nat}(h:GB g T)(n:S):(g n).length<=T:=by have:=h.sum [n] yS;simpa using this
structure GN (g:S->List S) (n:S) (L W:List S):Prop where
 nd:L.Nodup
 np:n∉L
 CA:∀s∈L,LR g n s
 P7:∀s∈W,LR g n s
 st:∀e∈g n,e∈L\/e∈W
 cl:∀s∈L,∀e∈g s,e∈L\/e∈W
 len:W.length<=(g n).length+(L.map λs=>(g s).length).sum
def GN.start{g:S->List S}{n:S}:GN g n [] (g n):=⟨yS,yS,yS,λs hs=>.one hs,λe he=>.inr he,yS,yS⟩
def GN.old{g:S->List S}{n s:S}{L W:List S}(h:GN g n L (s::W))(hs:s∈L):GN g n L W:=by
 refine⟨h.nd,h.np,h.CA,λx a=>h.P7 x (by simp[a]),λe he=>?_,λx a e he=>?_,by have:=h.len;simp at this;omega⟩
 ·rcases h.st e he with h1|h1
  ·exact .inl h1
  ·rcases bN.1 h1 with rfl|h1
   ·exact .inl hs
   ·exact .inr h1
 ·rcases h.cl x a e he with h1|h1
  ·exact .inl h1
  ·rcases bN.1 h1 with rfl|h1
   ·exact .inl hs
   ·exact .inr h1
def GN.new{g:S->List S}{n s:S}{L W:List S}(h:GN g n L (s::W))(hs:s∉L)(d:s≠n):GN g n (L++[s]) (W++g s):=by
 have hr:=h.P7 s yS;refine⟨?_,?_,?_,?_,?_,?_,?_⟩
 ·rw[cV];exact⟨h.nd,yS,λa ha b hb=>by simp at hb;subst hb;exactλe=>hs (e▸ha)⟩
 ·intro c;rcases bG.1 c with c|c
  ·exact h.np c
  ·simp at c;exact d c.symm
 ·intro x c;rcases bG.1 c with c|c
  ·exact h.CA x c
  ·simp at c;subst c;exact hr
 ·intro x c;rcases bG.1 c with c|c
  ·exact h.P7 x (by simp[c])
  ·exact .more hr c
 ·intro e he;rcases h.st e he with h1|h1
  ·exact .inl (by simp[h1])
  ·rcases bN.1 h1 with rfl|h1
   ·exact .inl yS
   ·exact .inr (by simp[h1])
 ·intro x c e he;rcases bG.1 c with c|c
  ·rcases h.cl x c e he with h1|h1
   ·exact .inl (by simp[h1])
   ·rcases bN.1 h1 with rfl|h1
    ·exact .inl yS
    ·exact .inr (by simp[h1])
  ·simp at c;subst c;exact .inr (dI _ he)
 ·have a:=h.len;simp only[bM,bt,cj,dQ,bJ,hZ,cm,nI]at*;omega
def GN.fin{g:S->List S}{n:S}{L:List S}(h:GN g n L []):¬LR g n n:=by
 have key:∀s,LR g n s->s∈L:=by
  intro s hr;induction hr with
  |one a=>rcases h.st _ a with h1|h1;exact h1;simp at h1
  |more _ a b=>rcases h.cl _ b _ a with h1|h1;exact h1;simp at h1
 exactλhr=>h.np (key n hr)
def GN.ch{g:S->List S}{n:S}{L W:List S}(h:GN g n L W){T:Nat}(hb:GB g T):L.length<=T:=by
 obtain⟨PM,h1,J⟩:=hb.all;refine bQ (fv h.nd λs hs=>?_) h1;have hr:=h.CA s hs;cases hr with
 |one h=>exact J _ _ h
 |more _ h=>exact J _ _ h
def GN.Lm{g:S->List S}{n:S}{L W:List S}(h:GN g n L W){T:Nat}(hb:GB g T):W.length<=2*T:=by have a:=h.len;have b:=hb.sum L h.nd;have c:=hb.one n;omega
structure MM (mm:List (S×D)) (g:S->List S):Prop where
 get:∀s q,fJ mm s=some q->q=bA encS (g s)
 no:∀s,fJ mm s=none->g s=[]
end Go.VC
namespace Go.VC.cG
open Go Go.VC Go.Proofs
section
variable {K:PV->List Ob->Prop}
def T8:ea:={tt:=tt,n:=8,own:=[2,5]}
def VN{l:List S}{d:D}(e:d=bA encS l)(hl:l.length<4294967296)
 (h:∀r,r=bA encS l->K (.row 9 0) [.row 9 r true]):
 FT 181 [] [.lst 9 d] K:=by
 refine eo T8 Tryz.func181 λA C L X=>?_;obtain⟨f,c,a⟩:=lenOf e;cbv;intro b hb;refine p3 (λJ=>?_) (λJ=>?_) (λJ=>?_)
 ·refine h _ ?_;obtain rfl:=X.a;have hb:=hb J;rw[kB,a,c]at hb;have:l=[]:=bY (by simp only[bz]at hb;omega);rw[this];rfl
 ·obtain rfl:=X.a;simp only[SD,a];omega
 ·refine h _ ?_;obtain rfl:=X.a;rw[e];exact cB (l:=[])
def T4:ea:={tt:=tt,n:=37,own:=[17]}
def Y8{mm:List (S×D)}{g:S->List S}(hm:MM mm g){T:Nat}(hb:GB g T)(hT:T<=268435456){F:D}(G:F=bA (fx rT) mm){n:S}
 (h:∀b,(b=true↔LR g n n)->K (.bool b) []):
 FT 199 [] [.dmp 68 F,.str n] K:=by
 refine eo T4 Tryz.func199 λA C L X=>?_;have Y:=fz X.a;have al:=Nw X.a;have aj:∀p,A.mJ F (.str p)=true->A.fc F (.str p) 0=bA encS (g p):=by intro p hp;rw[X.a,G,lx]at hp;obtain⟨q,hq⟩:=eQ.1 hp;rw[X.a,G,ly (f:=rT) hq 0,hm.get p q hq];rfl
 have ah:∀p,A.mJ F (.str p)=false->(.list []:D)=bA encS (g p):=by intro p hp;rw[X.a,G,lx]at hp;rw[hm.no p (yU hp)];rfl
 have key:∀dw,dw=bA encS (g n)->∀{st:List Ob},True:=λ_ _ _=>trivial;clear G hm;cbv;repeat' (first|apply bq|exact zf|(intro J;cbv)|apply bE|(refine X.call (VN (aj n J) (jd (hb.one n) yO) λr0 af=>?_);cbv)|(refine X.call (VN (ah n J) (jd (hb.one n) yO) λr0 af=>?_);cbv))
 all_goals (
  cbv
  refine X.j0 (λ(y:(List S×List S)×D×D×Bool)=>⟨[(6,.row 9 1),(5,.mp 0),(1,.str n),(0,.dmp 68 F)],[.map .str 4 y.2.1,.row 9 y.2.2.1 y.2.2.2]⟩)
   (λy=>GN g n y.1.1 y.1.2/\y.2.2.1=bA encS y.1.2/\∃k,y.2.1=bA cO k/\KT k y.1.1) (λy=>y.1.2.length+(T-y.1.1.length)*(T+1)) (([],g n),.list [],r0,true) ⟨.start,af,[],rfl,KT.nil⟩ ?_ ?_)
 ·exact⟨[0,1],rfl,yc⟩
 rotate_left
 ·exact⟨[0,1],rfl,yc⟩
 all_goals (
  rintro⟨⟨v,W⟩,dm,c,wr⟩ ⟨x,z,k,B,hk⟩;simp only at x z B hk;have E:=x.Lm hb;have aw:=x.ch hb;obtain⟨ar,d,m⟩:=lenOf z;cbv;constructor<;>intro h1
  ·have w:A.lt 0 (A.len c)=true:=h1
   match W,z,d,x,E with
   |[],z,d,x,E=>exfalso;obtain rfl:=X.a;rw[m,d]at w;cases w
   |s::W,z,d,x,E=>
   have ap:A.idx 0 (A.len c):=by rw[X.a,z];exact cY (i:=0) yS
   have ks:A.bH (A.cell c 0 0)=s:=tv X.a z (i:=0) yS;have N:A.asBool (A.fc dm (.str (A.bH (A.cell c 0 0))) 0)=decide (s∈v):=by rw[ks,X.a,B];exact ux hk _
   have M:A.lU dm (.str (A.bH (A.cell c 0 0))) [.bool true]=bA cO (oO k s):=by rw[ks,X.a,B];exact qT
   have aa:A.gh 1 (A.len c):=by rw[X.a,z,da];exact⟨yD,yQ⟩
   have P:A.part c 1 (A.len c)=bA encS W:=by rw[X.a,z,da];have:=oQ (f:=encS) (l:=s::W) (a:=1) (b:=(s::W).length);simpa using this
   have R:A.mJ F (.str (A.bH (A.cell c 0 0)))=true->A.fc F (.str (A.bH (A.cell c 0 0))) 0=bA encS (g s):=by rw[ks];exact aj s
   have Q:A.mJ F (.str (A.bH (A.cell c 0 0)))=false->(.list []:D)=bA encS (g s):=by rw[ks];exact ah s
   simp only[bM]at E;clear h1 w;have ai:s∉v->s≠n->∀j,j=bA encS (g s)->A.gh (A.add (A.len c) (A.len j)) 4294967296:=by intro hs hn j o;have U:=(x.new hs hn).Lm hb;simp only[bt]at U;rw[X.a,z,o,da,da,fy];refine⟨yQ,yQ⟩
   have H:∀j,j=bA encS (g s)->A.app c j=bA encS (s::(W++g s)):=by intro j o;rw[X.a,z,o];exact cB
   have I:∀j,j=bA encS (g s)->A.gh 1 (A.len (A.app c j)):=by intro j o;rw[H j o,X.a,da];exact⟨yD,yQ⟩
   have t:∀j,j=bA encS (g s)->A.part (A.app c j) 1 (A.len (A.app c j))=bA encS (W++g s):=by intro j o;rw[H j o,X.a,da];have:=oQ (f:=encS) (l:=s::(W++g s)) (a:=1) (b:=(s::(W++g s)).length);rw[List.drop_one,List.tail_cons,db yS]at this;exact this
   have O:s∉v->s≠n->(W++g s).length+(T-(v++[s]).length)*(T+1)<(s::W).length+(T-v.length)*(T+1):=by intro hs hn;have ad:=(x.new hs hn).ch hb;have au:=hb.one s;simp only[bt,dJ]at ad;have:T-v.length=(T-(v.length+1))+1:=yO;have e2:(v++[s]).length=v.length+1:=yS;rw[e2,this,c9,pN,bt,bM];omega
   have V:=hk.add s;have ac:A.seq (A.bH (A.cell c 0 0)) n=(s==n):=by rw[ks,al]
   have r:A.not (A.asBool (A.fc dm (.str (A.bH (A.cell c 0 0))) 0))=true->s∉v:=by intro e;rw[Y,N]at e;simpa using e
   have u:A.seq (A.bH (A.cell c 0 0)) n=false->s≠n:=by intro e;rw[ac]at e;simpa using e
   cbv;repeat' (first|apply bq|exact zf|(intro J;cbv)|apply bE)
   any_goals first|exact ap|exact aa
   any_goals first|exact ai (r yA) (u yA) _ (R yA)|exact ai (r yA) (u yA) _ (Q yA)|exact I _ (R yA)|exact I _ (Q yA)
   ·have e:A.seq (A.bH (A.cell c 0 0)) n=true:=yA;rw[ac]at e;have e:=eq_of_beq e;exact h true (Iff.intro (λ_=>e▸x.P7 s yS) (λ_=>rfl))
   ·have e1:=r yA;have e2:=u yA;exact⟨((v++[s],W++g s),_,_,false),⟨x.new e1 e2,t _ (R yA),_,M,V⟩,O e1 e2,[0,1],rfl,yc⟩
   ·have e1:=r yA;have e2:=u yA;exact⟨((v++[s],W++g s),_,_,false),⟨x.new e1 e2,t _ (Q yA),_,M,V⟩,O e1 e2,[0,1],rfl,yc⟩
   ·have e1:A.not (A.asBool (A.fc dm (.str (A.bH (A.cell c 0 0))) 0))=false:=yA;rw[Y,N]at e1;have hs:s∈v:=yU e1;exact⟨((v,W),_,_,false),⟨x.old hs,P,k,B,hk⟩,by simp only[bM];omega,[0,1],rfl,yc⟩
  ·have w:A.lt 0 (A.len c)=false:=h1;have am:W=[]:=by obtain rfl:=X.a;rw[m,im]at w;have:=of_decide_eq_false w;exact bY (by simp only[bz]at this;omega)
   subst am;have ag:=x.fin;cbv;exact h false (Iff.intro (λe=>absurd e yD) (λe=>absurd e ag))
 )
end
end Go.VC.cG
namespace Go.VC
open Classical in
noncomputable def qy(x:IF):List S:=if h:∃l:List S,zu l/\∀s,s∈l↔s∈ye x then h.choose else []
def Kp{l c:List S}(h:zu l)(f:zu c)(he:∀s,s∈l↔s∈c):l=c:=by have nd:∀{l:List S},zu l->l.Nodup:=λh=>rY (λ{a b} h e=>by subst e;rw[iA]at h;cases h) h;have g:l.Perm c:=(n1 (nd h) (nd f)).2 he;have d:∀a b:S,slt a b=true->slt b a=true->a=b:=λa b h1 J=>absurd (oh h1 J) (by rw[iA];decide);exact zU (le:=λa b=>slt a b=true) (λa b _ _ h1 J=>d a b h1 J) h f g
def BU{x:IF}{l:List S}(h1:zu l)(J:∀s,s∈l↔s∈ye x):l=qy x:=by have a:∃l:List S,zu l/\∀s,s∈l↔s∈ye x:=⟨l,h1,J⟩;unfold qy;rw[dif_pos a];exact Kp h1 a.choose_spec.1 λs=>(J s).trans (a.choose_spec.2 s).symm
def DI{x:IF}{s:S}(h:s∈qy x):s∈ye x:=by
 unfold qy at h;split at h
 ·rename_i a;exact(a.choose_spec.2 s).1 h
 ·simp at h
def K8(x:IF):(qy x).length<=x.wt:=by
 refine bQ ?_ (uX x);have nd:∀{l:List S},zu l->l.Nodup:=λh=>rY (λ{a b} h e=>by subst e;rw[iA]at h;cases h) h;by_cases c:∃l:List S,zu l/\∀s,s∈l↔s∈ye x
 ·have e:qy x=c.choose:=by unfold qy;rw[dif_pos c]
  refine fv (by rw[e];exact nd c.choose_spec.1) λs hs=>?_;exact(kH.1 (DI hs)).1
 ·unfold qy;rw[dif_neg c];exact bB _
noncomputable def EZ(env:List IF)(s:S):List S:=match env.reverse.find? λx=>x.path==s with|some x=>qy x|none=>[]
def Ed(env:List IF)(x:IF)(s:S):EZ (env++[x]) s=if x.path=s then qy x else EZ env s:=by
 unfold EZ;rw[List.reverse_append,List.reverse_singleton,JK,cH];by_cases h:x.path=s
 ·have:(x.path==s)=true:=yU h;rw[this,if_pos h]
 ·have:(x.path==s)=false:=yU h;rw[this,if_neg h]
def Ac{α:Type}(key:α->S):∀(l:List α)(f:α->Nat)(L:List S),L.Nodup->(L.map λn=>((l.find? λx=>key x==n).map f).getD 0).sum<=(l.map f).sum
 |[],f,L,_=>by
  have:∀L:List S,(L.map λn=>((([]:List α).find? λx=>key x==n).map f).getD 0).sum=0:=by
   intro L;induction L with
   |nil=>rfl
   |cons s L d=>rw[bJ,cm,d];rfl
  rw[this];exact bB _
 |x::l,f,L,c=>by
  have d:=Ac key l f L c
  have key:(L.map λn=>(((x::l).find? λy=>key y==n).map f).getD 0).sum<=f x+(L.map λn=>((l.find? λy=>key y==n).map f).getD 0).sum:=by
   clear d;induction L with
   |nil=>simp
   |cons s L b=>
    rw[cw]at c;have b:=b c.2;simp only[bJ,cm];by_cases hs:key x=s
    ·have hb:(key x==s)=true:=yU hs
     have a:∀n∈L,(((x::l).find? λy=>key y==n).map f).getD 0=((l.find? λy=>key y==n).map f).getD 0:=by
      intro n g;have:(key x==n)=false:=by rw[beq_eq_false_iff_ne];intro e;exact c.1 (by rw[<- hs,e];exact g)
      rw[cH,this]
     rw[gw a,cH,hb];simp only[cr,eR];omega
    ·have hb:(key x==s)=false:=yU hs;rw[cH,hb];simp only;omega
  simp only[bJ,cm];omega
def Rg(env:List IF):GB (EZ env) (env.map IF.wt).sum:=by
 have a:(env.reverse.map IF.wt).sum=(env.map IF.wt).sum:=by rw[List.map_reverse,List.sum_reverse]
 refine⟨λL b=>?_,env.flatMap AD,ln λx _=>uX x,λs e he=>?_⟩
 ·rw[<- a];refine bQ ?_ (Ac IF.path env.reverse IF.wt L b)
  have key:∀L:List S,(L.map λs=>(EZ env s).length).sum<=(L.map λn=>((env.reverse.find? λx=>x.path==n).map IF.wt).getD 0).sum:=by
   intro L;induction L with
   |nil=>exact cg _
   |cons s L c=>
    simp only[bJ,cm];refine Nat.add_le_add ?_ c;unfold EZ;cases h:env.reverse.find? λx=>x.path==s with
    |none=>simp
    |some x=>simpa using K8 x
  exact key L
 ·unfold EZ at he;cases h:env.reverse.find? λx=>x.path==s with
  |none=>rw[h]at he;simp at he
  |some x=>rw[h]at he;have d:=List.mem_reverse.1 (eb h);exact dp.2 ⟨x,d,(kH.1 (DI he)).1⟩
def MM.put{mm:List (S×D)}{env:List IF}(h:MM mm (EZ env))(x:IF):MM (iP x.path (bA encS (qy x)) mm) (EZ (env++[x])):=by
 refine⟨λs q a=>?_,λs a=>?_⟩
 ·rw[Ed];rw[lh]at a;by_cases e:x.path=s
  ·rw[if_pos e.symm]at a;rw[if_pos e];exact(iH a).symm
  ·rw[if_neg (dy e)]at a;rw[if_neg e];exact h.get s q a
 ·rw[Ed];rw[lh]at a;by_cases e:x.path=s
  ·rw[if_pos e.symm]at a;cases a
  ·rw[if_neg (dy e)]at a;rw[if_neg e];exact h.no s a
def MM.nil:MM [] (EZ []):=⟨λs q a=>absurd a (by simp[fJ]),λs _=>rfl⟩
noncomputable def yY(env:List IF):Option S->List IF->S×Int
 |_,[]=>([],0)
 |none,x::l=>if(km env x.path).2≠0 then(x.path,(km env x.path).2)else yY env (some x.path) l
 |some p,x::l=>if x.path=p then(x.path,5)else if slt x.path p=true then(x.path,1)else if(km env x.path).2≠0 then(x.path,(km env x.path).2)else yY env (some x.path) l
open Classical in
noncomputable def Q4(env:List IF)(x:IF):Int:=if LR (EZ env) x.path x.path then 14 else 0
noncomputable def pX(env:List IF):S×Int:=if 64<env.length then([],7)else gd (yY env none env) (nU (Q4 env) IF.path env)
end Go.VC
namespace Go.VC.cG
open Go Go.VC Go.Proofs
def Zl{env:List IF}{de:D}(he:de=bA dC env)(ek:eH env)(eO:∀i∈env,i.fit)(lA:(env.map IF.wt).sum<=268435456){K:PV->List Ob->Prop}(h:∀(s:S)(r:Int),(s,r)=pX env->K (.tup [.str s,.int .i64 r]) []):
 FT 153 [] [.lst 97 de] K:=by
 refine en XA Tryz.func153 λA C L X=>?_;have Y:=fz X.a;have Z:=qH X.a;have c8:=I6 X.a;have v:=Nw X.a;have F:=ZT X.a;have l1:A.len de=bk env.length:=iW X.a he;obtain⟨d,m,a⟩:=lenOf he;unfold pX at h;cbv;repeat' (first|apply bq|exact zf|(intro J;cbv)|apply bE)
 ·have J:A.lt 64 (A.len de)=true:=J;rw[c8,l1]at J;have h3:=of_decide_eq_true J;simp only[bz]at h3;exact h _ _ (by rw[if_pos yO])
 have T:¬64<env.length:=by have J:A.lt 64 (A.len de)=false:=J;rw[c8,l1]at J;have h3:=of_decide_eq_false J;simp only[bz]at h3;omega
 rw[if_neg T]at h;clear J;obtain⟨E0,O⟩:∃x,x=yY env none env:=⟨_,rfl⟩;obtain⟨E1,R⟩:∃x,x=nU (Q4 env) IF.path env:=⟨_,rfl⟩;rw[<- O,<-R]at h;cbv
 refine X.j0 (λ(y:Nat×D)=>⟨[(17,.int .i64 y.1),(16,.int .i64 (A.len de)),(15,.lst 97 de),(4,.mp 0),(0,.lst 97 de)],[.map .str 68 y.2]⟩)
  (λy=>y.1<=d/\E0=yY env (fC (env.map IF.path) y.1) (env.drop y.1)/\∃mm,y.2=bA (fx rT) mm/\MM mm (EZ (env.take y.1))) (λy=>d-y.1) (0,.list []) ⟨bB _,O,[],rfl,MM.nil⟩ ?_ ?_
 ·exact⟨[0],rfl,yc⟩
 rintro⟨j,dM⟩ ⟨hj,k,mm,M,u⟩;simp only at hj k M u;cbv;constructor<;>intro h1
 ·have h5:j<env.length:=lY X.a a h1;have N:=mL X.a he h5;have g:=N.1;have I:=iX X.a he h5;have w:=jX X.a h5;have ab:A.lt 0 (bk j)=true->A.inr .i64 (A.sub (bk j) 1):=by intro h;rw[c8]at h;have h:=of_decide_eq_true h;rw[X.a];simp only[SD]at *;omega
  have aa:A.lt 0 (bk j)=true->A.idx (A.sub (bk j) 1) (A.len de):=by intro h;rw[c8]at h;have h:=of_decide_eq_true h;rw[X.a]at *;simp only[a,SD]at *;omega
  have ac:A.lt 0 (bk j)=true->∃p,fC (env.map IF.path) j=some p/\A.bH (A.cell de (A.sub (bk j) 1) 0)=p:=by
   intro h;rw[c8]at h;have h:=of_decide_eq_true h;simp only[bz]at h;have V:j-1<env.length:=yO;refine⟨env[j-1].path,?_,?_⟩
   ·rw[fC,if_neg yO];simp[cc,V]
   ·rw[show A.sub (bk j) 1=bk (j-1)by rw[X.a];simp only[SD];omega];exact(mL X.a he V).1
  have ae:A.lt 0 (bk j)=false->fC (env.map IF.path) j=none:=by intro h;rw[c8]at h;have h:=of_decide_eq_false h;simp only[bz]at h;rw[fC,if_pos yO]
  have U:fC (env.map IF.path) (j+1)=some env[j].path:=by rw[fC,if_neg yO];simp[cc,h5]
  have Q:env[j].wt<=4294967295:=bQ (sr (bu h5)) (bQ lA yD);have z:∀l r,r=bA encS l->l=qy env[j]->A.lU dM (.str (A.bH (A.cell de (bk j) 0))) [r]=bA (fx rT) (iP env[j].path (bA encS (qy env[j])) mm):=by intro l r hr hl;rw[g,X.a,M,hr,hl];exact lq (f:=rT)
  have P:env.take (j+1)=env.take j++[env[j]]:=cb h5;rw[bF h5]at k;cases hz:A.lt 0 (bk j)with
  |true=>
   obtain⟨p,ad,n⟩:=ac hz;rw[ad,yY]at k;cbv;repeat' (first|apply bq|exact zf|(intro J;first|exact yB hz J|cbv)|apply bE|(refine X.call (VL he ek eO λW o c=>?_);cbv))
   any_goals first|exact I|exact w|exact ab hz|exact aa hz
   ·have h3:A.seq (A.bH (A.cell de (bk j) 0)) (A.bH (A.cell de (A.sub (bk j) 1) 0))=true:=yA;rw[g,n,v]at h3;rw[if_pos (yU h3)]at k;refine h _ 5 ?_;rw[k,gd,if_pos (show (5:Int)≠0 by decide)];exact dR g rfl
   ·have h3:A.seq (A.bH (A.cell de (bk j) 0)) (A.bH (A.cell de (A.sub (bk j) 1) 0))=false:=yA;have h4:A.slt (A.bH (A.cell de (bk j) 0)) (A.bH (A.cell de (A.sub (bk j) 1) 0))=true:=yA;rw[g,n,v]at h3;rw[g,n,F]at h4;rw[if_neg (yU h3),if_pos h4]at k;refine h _ 1 ?_;rw[k,gd,if_pos (show (1:Int)≠0 by decide)];exact dR g rfl
   ·have h3:A.seq (A.bH (A.cell de (bk j) 0)) (A.bH (A.cell de (A.sub (bk j) 1) 0))=false:=yA;have h4:A.slt (A.bH (A.cell de (bk j) 0)) (A.bH (A.cell de (A.sub (bk j) 1) 0))=false:=yA;have c:(W,o)=km env env[j].path:=by rw[<- g];exact c
    rw[g,n,v]at h3;rw[g,n,F]at h4;rw[Y,Z]at J;rw[if_neg (yU h3),if_neg (by rw[h4];decide),<-c,if_pos (yU J)]at k;refine h _ o ?_;rw[k,gd,if_pos (show o≠0 by simpa using J)];exact dR g rfl
   ·have h3:A.seq (A.bH (A.cell de (bk j) 0)) (A.bH (A.cell de (A.sub (bk j) 1) 0))=false:=yA;have h4:A.slt (A.bH (A.cell de (bk j) 0)) (A.bH (A.cell de (A.sub (bk j) 1) 0))=false:=yA;have c:(W,o)=km env env[j].path:=by rw[<- g];exact c
    rw[g,n,v]at h3;rw[g,n,F]at h4;rw[Y,Z]at J;have h6:o=0:=yU J;rw[if_neg (yU h3),if_neg (by rw[h4];decide),<-c,if_neg (show ¬o≠0 fromλe=>e h6)]at k;refine X.call (Ss N (ek.2 _ (bu h5)) Q λl r hr H E=>?_);have hp:=z l r hr (BU H E);have G:MM (iP env[j].path (bA encS (qy env[j])) mm) (EZ (env.take (j+1))):=by rw[P];exact u.put _
    refine p1 ?_;refine⟨(j+1,_),⟨yP,?_,_,hp,G⟩,yP,[0],rfl,?_⟩
    ·rw[U];exact k
    exact yc
  |false=>
   rw[ae hz,yY]at k;cbv;repeat' (first|apply bq|exact zf|(intro J;first|exact yB hz J|cbv)|apply bE|(refine X.call (VL he ek eO λW o c=>?_);cbv))
   any_goals first|exact I|exact w
   ·have c:(W,o)=km env env[j].path:=by rw[<- g];exact c
    rw[Y,Z]at J;rw[<- c,if_pos (yU J)]at k;refine h _ o ?_;rw[k,gd,if_pos (show o≠0 by simpa using J)];exact dR g rfl
   ·have c:(W,o)=km env env[j].path:=by rw[<- g];exact c
    rw[Y,Z]at J;have h6:o=0:=yU J;rw[<- c,if_neg (show ¬o≠0 fromλe=>e h6)]at k;refine X.call (Ss N (ek.2 _ (bu h5)) Q λl r hr H E=>?_);have hp:=z l r hr (BU H E);have G:MM (iP env[j].path (bA encS (qy env[j])) mm) (EZ (env.take (j+1))):=by rw[P];exact u.put _
    refine p1 ?_;refine⟨(j+1,_),⟨yP,?_,_,hp,G⟩,yP,[0],rfl,?_⟩
    ·rw[U];exact k
    exact yc
 ·have h5:j=d:=gY X.a a h1;have z0:E0=([],0):=by rw[k,h5,m,cd];unfold yY;cases fC (env.map IF.path) env.length<;>rfl
  rw[h5,m,bD]at u;cbv
  refine X.Ld (λ(y:Nat)=>⟨[(74,.int .i64 y),(73,.int .i64 (A.len de)),(72,.lst 97 de),(4,.dmp 68 dM)],[]⟩)
   (λy=>y<=d/\E1=nU (Q4 env) IF.path (env.drop y)) (λy=>d-y) 0 ⟨bB _,R⟩ ?_ ?_
  ·exact⟨[0],[],[],rfl,yc⟩
  rintro q ⟨ak,t⟩;cbv;constructor<;>intro h1
  ·have h5:q<env.length:=lY X.a a h1;have N:=mL X.a he h5;have g:=N.1;have I:=iX X.a he h5;have w:=jX X.a h5;rw[bF h5,nU]at t;refine p1 ?_;refine X.call (Y8 u (Rg env) lA M λb hb=>?_);cbv;repeat' (first|apply bq|exact zf|(intro J;cbv)|apply bE)
   any_goals exact w
   ·have J:b=true:=yA;have hb:b=true↔LR (EZ env) env[q].path env[q].path:=by rw[<- g];exact hb
    have B:Q4 env env[q]=14:=by unfold Q4;rw[if_pos (hb.1 J)]
    rw[B,if_pos yD]at t;refine h _ 14 ?_;rw[z0,gd,if_neg yD,t];exact dR g rfl
   ·have J:b=false:=yA;have hb:b=true↔LR (EZ env) env[q].path env[q].path:=by rw[<- g];exact hb
    have B:Q4 env env[q]=0:=by unfold Q4;rw[if_neg (λe=>by have:=hb.2 e;rw[J]at this;cases this)]
    rw[B,if_neg (by decide)]at t;exact⟨q+1,⟨yO,t⟩,yO,[],[],[],rfl,yc⟩
  ·have h5:q=d:=gY X.a a h1;cbv;refine h [] 0 ?_;rw[z0,t,h5,m,cd];rfl
end Go.VC.cG
namespace Go.VC
section
def Tz(s:S):List S->List S
 |[]=>[s]
 |x::l=>if slt x s then x::Tz s l else if x=s then x::l else s::x::l
section
variable {α:Type}{f:α->List D}{l:List α}{i:Nat}{y:α}{ys:List D}{A:pM}{d:D}
def X5(ha:A=Std)(a:d=bA f l):A.app (A.lit []) (A.part d 0 (bk i))=bA f (l.take i):=by rw[ha,a,vA,show Std.lit []=bA f []from rfl,cB];simp
def Mz(ha:A=Std)(a:d=bA f l)(b:ys=f y):A.app (A.app (A.lit []) (A.part d 0 (bk i))) (A.lit [ys])=bA f (l.take i++[y]):=by rw[X5 ha a,ha,b];exact cB (k:=[y])
end
end
end Go.VC
namespace Go.VC.cG
open Go Go.VC Go.Proofs
end Go.VC.cG
namespace Go.VC
def Rc(a l:List S):List S:=l.foldl (λa s=>Tz s a) a
end Go.VC
namespace Go.VC.cG
open Go Go.VC Go.Proofs
end Go.VC.cG
namespace Go.VC
end Go.VC
namespace Go.VC.cG
open Go Go.VC Go.Proofs
end Go.VC.cG
namespace Go.VC
def iU(t:Ty):t.er.length+1<=t.size:=by
 rw[size_eq]
 have:∀l:List Ty,l.length<=(l.map Ty.size).sum:=by
  intro l;induction l with
  |nil=>simp
  |cons x l a=>simp only[bM,bJ,cm];have:=size_eq x;omega
 have:=this t.er;omega
def pG{α:Type}{f:α->Nat}{l:List α}{i:Nat}:((l.take i).map f).sum<=(l.map f).sum:=by rw[vB];exact vH
def Ku{t u:Ty}(h:u∈t.er):u.size+1<=t.size:=by
 rw[size_eq t]
 have:∀l:List Ty,u∈l->u.size<=(l.map Ty.size).sum:=by
  intro l;induction l with
  |nil=>simp
  |cons x l b=>
   intro a;rcases bN.1 a with rfl|a
   ·simp
   ·have:=b a;simp;omega
 have:=this _ h;omega
end Go.VC
namespace Go.VC.cG
open Go Go.VC Go.Proofs
end Go.VC.cG
namespace Go.VC
def fe(e:TE):List Ty:=[e.lower,e.upper]++e.params.map (·.bound)
def gr(e:VE):List Ty:=[e.ty]++e.params.map (·.bound)
def eL(x:IF):List Ty:=x.types.flatMap fe++x.values.flatMap gr
def kY{α β:Type}{f:α->List β}{l:List α}{i:Nat}(h:i<l.length):((l.take i).flatMap f).length+(f l[i]).length<=(l.flatMap f).length:=by
 have e:l.flatMap f=(l.take (i+1)).flatMap f++(l.drop (i+1)).flatMap f:=by rw[<- eD,cX]
 rw[e,gk h,bt,bt];omega
end Go.VC
namespace Go.VC.cG
open Go Go.VC Go.Proofs
def W5:ea:={tt:=tt,n:=96,iT:=g41.iT,own:=[8]}
def Z4{x:IF}{F:S}{c1 c2 B E:D}{K:PV->List Ob->Prop}(hx:kn x F c1 c2 B E)(ek:x.ok)(hw:(eL x).length<=4294967290)
 (h:∀r,r=bA cq (eL x)->K (.lst 29 r) []):FT 41 [] [nR F c1 c2 B E] K:=by
 obtain⟨x0,t,u,av,ar⟩:=hx;have nt:=ek.nt;have nv:=ek.nv;have ak:(eL x).length=(x.types.flatMap fe).length+(x.values.flatMap gr).length:=by unfold eL;rw[bt]
 refine en W5 Tryz.func41 λA C L X=>?_;obtain⟨o,q,e⟩:=lenOf t;obtain⟨m,s,g⟩:=lenOf u;cbv;refine lP X (λy=>y.1<=o/\y.2=bA cq ((x.types.take y.1).flatMap fe)) (λy=>o-y.1) (0,A.lit []) ⟨bB _,yX⟩ [0,1] (λ(y:Nat×D)=>⟨[(4,.int .i64 y.1),(3,.row 29 1),(1,.box 0 0)],[.box [.str F,.lst 136 c1,.lst 91 c2,.lst 210 B,.lst 213 E],.row 29 y.2 true]⟩) ?_;rintro⟨i,r⟩ ⟨Q,hr⟩;simp only at Q hr;cbv;constructor<;>intro h1
 ·have h5:i<x.types.length:=lY X.a e h1;obtain⟨k0,p,⟨m0,m1,U,V,m4⟩,⟨u0,u1,u2,u3,u4⟩⟩:=mz X.a t h5;have z:=iX X.a t h5;have ac:=jX X.a h5;have ae:=kY (f:=fe) h5;have w:=gk (f:=fe) h5;have W:(fe x.types[i]).length=2+x.types[i].params.length:=by unfold fe;simp;omega
  have v:((x.types.take i).flatMap fe).length+2+x.types[i].params.length<=4294967290:=by first|omega|(simp only[bt];omega)
  have q1:A.app r (A.lit [[.int (A.asInt (A.cell c1 (bk i) 2)),.str (A.bH (A.cell c1 (bk i) 3)),.str (A.bH (A.cell c1 (bk i) 4)),A.cell c1 (bk i) 5,A.cell c1 (bk i) 6],[.int (A.asInt (A.cell c1 (bk i) 7)),.str (A.bH (A.cell c1 (bk i) 8)),.str (A.bH (A.cell c1 (bk i) 9)),A.cell c1 (bk i) 10,A.cell c1 (bk i) 11]])=bA cq ((x.types.take i).flatMap fe++[x.types[i].lower,x.types[i].upper]++(x.types[i].params.take 0).map (·.bound)):=by rw[m0,m1,U,V,m4,u0,u1,u2,u3,u4,<-dk,<-dk,X.a,hr];refine(cB (f:=cq) (k:=[x.types[i].lower,x.types[i].upper])).trans ?_;simp
  have b1:A.gh (A.add (A.len r) (A.len (A.lit [[.int (A.asInt (A.cell c1 (bk i) 2)),.str (A.bH (A.cell c1 (bk i) 3)),.str (A.bH (A.cell c1 (bk i) 4)),A.cell c1 (bk i) 5,A.cell c1 (bk i) 6],[.int (A.asInt (A.cell c1 (bk i) 7)),.str (A.bH (A.cell c1 (bk i) 8)),.str (A.bH (A.cell c1 (bk i) 9)),A.cell c1 (bk i) 10,A.cell c1 (bk i) 11]]))) 4294967296:=by rw[X.a,hr,da,lr];exact⟨by rw[fy];omega,by rw[fy];simp only[bM,bX];omega⟩
  refine p1 ?_;obtain⟨N,d⟩:∃N,N=A.cell c1 (bk i) 1:=⟨_,rfl⟩;rw[<- d]at p;obtain⟨a,l,c⟩:=lenOf p;refine lP X (λy=>y.1<=a/\y.2=bA cq ((x.types.take i).flatMap fe++[x.types[i].lower,x.types[i].upper]++(x.types[i].params.take y.1).map (·.bound))) (λy=>a-y.1) (0,_) ⟨bB _,q1⟩ [0,1] (λ(y:Nat×D)=>⟨[(5,.int .i64 y.1),(4,.int .i64 i),(3,.row 29 1),(1,.box 0 0)],[.box [.str F,.lst 136 c1,.lst 91 c2,.lst 210 B,.lst 213 E],.row 29 y.2 true]⟩) ?_;rintro⟨j,r2⟩ ⟨hj,b⟩;simp only at hj b;have n:A.len (A.cell c1 (bk i) 1)=bk a:=by rw[<- d,X.a];exact c
  cbv;refine⟨z,?_⟩;constructor<;>intro h1
  ·have h6:j<x.types[i].params.length:=by have h1:A.lt (bk j) (A.len (A.cell c1 (bk i) 1))=true:=h1;rw[n]at h1;obtain rfl:=X.a;simp only[SD]at h1;omega
   obtain⟨w0,w1,R,I,G,O,M⟩:=kh X.a p h6;rw[d]at R I G O M;have H:A.idx (bk j) (A.len (A.cell c1 (bk i) 1)):=by rw[<- d,X.a,p];exact cY h6
   have T:=jX X.a h6;have P:((x.types.take i).flatMap fe++[x.types[i].lower,x.types[i].upper]++(x.types[i].params.take j).map (·.bound)).length<=4294967290:=by simp only[bt,bL,cJ,bM,bX]at v ⊢;omega
   have q2:A.app r2 (A.lit [[.int (A.asInt (A.cell (A.cell c1 (bk i) 1) (bk j) 2)),.str (A.bH (A.cell (A.cell c1 (bk i) 1) (bk j) 3)),.str (A.bH (A.cell (A.cell c1 (bk i) 1) (bk j) 4)),(A.cell (A.cell c1 (bk i) 1) (bk j) 5),(A.cell (A.cell c1 (bk i) 1) (bk j) 6)]])=bA cq ((x.types.take i).flatMap fe++[x.types[i].lower,x.types[i].upper]++(x.types[i].params.take (j+1)).map (·.bound)):=by rw[R,I,G,O,M,X.a,b,map_take h6,<-bI,<-dk];exact cB (k:=[x.types[i].params[j].bound])
   have b2:A.gh (A.add (A.len r2) (A.len (A.lit [[.int (A.asInt (A.cell (A.cell c1 (bk i) 1) (bk j) 2)),.str (A.bH (A.cell (A.cell c1 (bk i) 1) (bk j) 3)),.str (A.bH (A.cell (A.cell c1 (bk i) 1) (bk j) 4)),(A.cell (A.cell c1 (bk i) 1) (bk j) 5),(A.cell (A.cell c1 (bk i) 1) (bk j) 6)]]))) 4294967296:=by rw[X.a,b,da,lr];exact⟨by rw[fy];omega,by rw[fy];simp only[bM,bX];omega⟩
   refine p1 ?_;exact⟨(j+1,_),⟨yP,q2⟩,yP,[0,1],rfl,yc⟩
  ·have h6:j=a:=by have h1:A.lt (bk j) (A.len (A.cell c1 (bk i) 1))=false:=h1;rw[n]at h1;obtain rfl:=X.a;simp only[SD]at h1;omega
   rw[h6,l,bD]at b;have q3:r2=bA cq ((x.types.take (i+1)).flatMap fe):=by rw[b,w];unfold fe;simp only[bI]
   refine p1 ?_;exact⟨(i+1,r2),⟨yP,q3⟩,yP,[0,1],rfl,yc⟩
 have h5:i=o:=gY X.a e h1;rw[h5,q,bD]at hr;clear h1 Q;cbv;refine lP X (λy=>y.1<=m/\y.2=bA cq (x.types.flatMap fe++(x.values.take y.1).flatMap gr)) (λy=>m-y.1) (0,r) ⟨bB _,yU hr⟩ [0,1] (λ(y:Nat×D)=>⟨[(6,.int .i64 y.1),(3,.row 29 1),(1,.box 0 0)],[.box [.str F,.lst 136 c1,.lst 91 c2,.lst 210 B,.lst 213 E],.row 29 y.2 true]⟩) ?_;rintro⟨i,r⟩ ⟨Q,hr⟩;simp only at Q hr;cbv;constructor<;>intro h1
 ·have h5:i<x.values.length:=lY X.a g h1;obtain⟨k0,p,⟨m0,m1,U,V,m4⟩⟩:=oX X.a u h5;have z:=iX X.a u h5;have ac:=jX X.a h5;have ae:=kY (f:=gr) h5;have w:=gk (f:=gr) h5;have W:(gr x.values[i]).length=1+x.values[i].params.length:=by unfold gr;simp;omega
  have v:(x.types.flatMap fe++(x.values.take i).flatMap gr).length+1+x.values[i].params.length<=4294967290:=by first|omega|(simp only[bt];omega)
  have q1:A.app r (A.lit [[.int (A.asInt (A.cell c2 (bk i) 2)),.str (A.bH (A.cell c2 (bk i) 3)),.str (A.bH (A.cell c2 (bk i) 4)),A.cell c2 (bk i) 5,A.cell c2 (bk i) 6]])=bA cq (x.types.flatMap fe++(x.values.take i).flatMap gr++[x.values[i].ty]++(x.values[i].params.take 0).map (·.bound)):=by rw[m0,m1,U,V,m4,<-dk,X.a,hr];refine(cB (f:=cq) (k:=[x.values[i].ty])).trans ?_;simp
  have b1:A.gh (A.add (A.len r) (A.len (A.lit [[.int (A.asInt (A.cell c2 (bk i) 2)),.str (A.bH (A.cell c2 (bk i) 3)),.str (A.bH (A.cell c2 (bk i) 4)),A.cell c2 (bk i) 5,A.cell c2 (bk i) 6]]))) 4294967296:=by rw[X.a,hr,da,lr];exact⟨by rw[fy];omega,by rw[fy];simp only[bM,bX];omega⟩
  refine p1 ?_;obtain⟨N,d⟩:∃N,N=A.cell c2 (bk i) 1:=⟨_,rfl⟩;rw[<- d]at p;obtain⟨a,l,c⟩:=lenOf p;refine lP X (λy=>y.1<=a/\y.2=bA cq (x.types.flatMap fe++(x.values.take i).flatMap gr++[x.values[i].ty]++(x.values[i].params.take y.1).map (·.bound))) (λy=>a-y.1) (0,_) ⟨bB _,q1⟩ [0,1] (λ(y:Nat×D)=>⟨[(7,.int .i64 y.1),(6,.int .i64 i),(3,.row 29 1),(1,.box 0 0)],[.box [.str F,.lst 136 c1,.lst 91 c2,.lst 210 B,.lst 213 E],.row 29 y.2 true]⟩) ?_;rintro⟨j,r2⟩ ⟨hj,b⟩;simp only at hj b;have n:A.len (A.cell c2 (bk i) 1)=bk a:=by rw[<- d,X.a];exact c
  cbv;refine⟨z,?_⟩;constructor<;>intro h1
  ·have h6:j<x.values[i].params.length:=by have h1:A.lt (bk j) (A.len (A.cell c2 (bk i) 1))=true:=h1;rw[n]at h1;obtain rfl:=X.a;simp only[SD]at h1;omega
   obtain⟨w0,w1,R,I,G,O,M⟩:=kh X.a p h6;rw[d]at R I G O M;have H:A.idx (bk j) (A.len (A.cell c2 (bk i) 1)):=by rw[<- d,X.a,p];exact cY h6
   have T:=jX X.a h6;have P:(x.types.flatMap fe++(x.values.take i).flatMap gr++[x.values[i].ty]++(x.values[i].params.take j).map (·.bound)).length<=4294967290:=by simp only[bt,bL,cJ,bM,bX]at v ⊢;omega
   have q2:A.app r2 (A.lit [[.int (A.asInt (A.cell (A.cell c2 (bk i) 1) (bk j) 2)),.str (A.bH (A.cell (A.cell c2 (bk i) 1) (bk j) 3)),.str (A.bH (A.cell (A.cell c2 (bk i) 1) (bk j) 4)),(A.cell (A.cell c2 (bk i) 1) (bk j) 5),(A.cell (A.cell c2 (bk i) 1) (bk j) 6)]])=bA cq (x.types.flatMap fe++(x.values.take i).flatMap gr++[x.values[i].ty]++(x.values[i].params.take (j+1)).map (·.bound)):=by rw[R,I,G,O,M,X.a,b,map_take h6,<-bI,<-dk];exact cB (k:=[x.values[i].params[j].bound])
   have b2:A.gh (A.add (A.len r2) (A.len (A.lit [[.int (A.asInt (A.cell (A.cell c2 (bk i) 1) (bk j) 2)),.str (A.bH (A.cell (A.cell c2 (bk i) 1) (bk j) 3)),.str (A.bH (A.cell (A.cell c2 (bk i) 1) (bk j) 4)),(A.cell (A.cell c2 (bk i) 1) (bk j) 5),(A.cell (A.cell c2 (bk i) 1) (bk j) 6)]]))) 4294967296:=by rw[X.a,b,da,lr];exact⟨by rw[fy];omega,by rw[fy];simp only[bM,bX];omega⟩
   refine p1 ?_;exact⟨(j+1,_),⟨yP,q2⟩,yP,[0,1],rfl,yc⟩
  ·have h6:j=a:=by have h1:A.lt (bk j) (A.len (A.cell c2 (bk i) 1))=false:=h1;rw[n]at h1;obtain rfl:=X.a;simp only[SD]at h1;omega
   rw[h6,l,bD]at b;have q3:r2=bA cq (x.types.flatMap fe++(x.values.take (i+1)).flatMap gr):=by rw[b,w];unfold gr;simp only[bI]
   refine p1 ?_;exact⟨(i+1,r2),⟨yP,q3⟩,yP,[0,1],rfl,yc⟩
 have h5:i=m:=gY X.a g h1;rw[h5,s,bD]at hr;clear h1 Q;cbv;exact h r hr
end Go.VC.cG
namespace Go.VC
def qi{α β:Type}{f:α->List β}{g:β->Nat}{w:α->Nat}:∀{l:List α},(∀x∈l,((f x).map g).sum<=w x)->((l.flatMap f).map g).sum<=(l.map w).sum
 |[],_=>yS
 |x::l,h=>by have a:=h x yS;have b:=qi (l:=l) (f:=f) (g:=g) (w:=w) λy c=>h y (by simp[c]);simp only[fP,cj,dQ,bJ,cm];omega
def rN(l:List Pm):((l.map (·.bound)).map Ty.size).sum<=(l.map Pm.wt).sum:=by
 induction l with
 |nil=>simp
 |cons p l a=>simp only[bJ,cm,Pm.wt]at a ⊢;omega
def Fi(x:IF):((eL x).map Ty.size).sum+x.aliases.length<=x.wt:=by
 have a:=qi (l:=x.types) (f:=fe) (g:=Ty.size) (w:=TE.wt) λy _=>by have:=rN y.params;simp only[fe,cj,dQ,bJ,hZ,cm,nI,TE.wt];omega
 have b:=qi (l:=x.values) (f:=gr) (g:=Ty.size) (w:=VE.wt) λy _=>by have:=rN y.params;simp only[gr,cj,dQ,bJ,hZ,cm,nI,VE.wt];omega
 simp only[eL,cj,dQ,IF.wt];omega
def Qz(t:Ty):1<=t.size:=by rw[size_eq];omega
def HR:∀l:List Ty,l.length<=(l.map Ty.size).sum
 |[]=>yS
 |t::l=>by have a:=Qz t;have b:=HR l;simp only[bM,bJ,cm];omega
def xe(x:IF):(eL x).length<=x.wt:=by have a:=Fi x;have b:=HR (eL x);omega
def It{x:IF}(ek:x.ok){u:Ty}(h:u∈eL x):Ty.le 4294967295 u:=by
 unfold eL at h;rcases bG.1 h with h|h
 ·obtain⟨e,he,hu⟩:=dp.1 h;have hk:=ek.t e he;unfold fe at hu;simp only[dP,jg,bN,bP]at hu;rcases hu with rfl|rfl|⟨p,a,rfl⟩
  ·exact hk.lo
  ·exact hk.up
  ·exact hk.p p a
 ·obtain⟨e,he,hu⟩:=dp.1 h;have hk:=ek.v e he;unfold gr at hu;simp only[dP,jg,bN,bP]at hu;rcases hu with rfl|⟨p,a,rfl⟩
  ·exact hk.ty
  ·exact hk.p p a
end Go.VC
namespace Go.VC.cG
open Go Go.VC Go.Proofs
end Go.VC.cG
namespace Go.VC
section
variable {α:Type}{i:Nat}
def sP(x:IF):Nat:=((eL x).map Ty.size).sum+x.aliases.length+x.deprecated.length
def xr(env:List IF):Nat:=env.length+(env.map sP).sum
def Jf(x:IF):sP x+1<=x.wt:=by
 have a:=qi (l:=x.types) (f:=fe) (g:=Ty.size) (w:=TE.wt) λy _=>by have:=rN y.params;simp only[fe,cj,dQ,bJ,hZ,cm,nI,TE.wt];omega
 have b:=qi (l:=x.values) (f:=gr) (g:=Ty.size) (w:=VE.wt) λy _=>by have:=rN y.params;simp only[gr,cj,dQ,bJ,hZ,cm,nI,VE.wt];omega
 simp only[sP,eL,cj,dQ,IF.wt];omega
def Kv(env:List IF):xr env<=(env.map IF.wt).sum:=by
 unfold xr;induction env with
 |nil=>simp
 |cons x l a=>have:=Jf x;simp only[bM,bJ,cm];omega
def xk{f:α->Nat}{l:List α}(h:i<l.length):((l.take (i+1)).map f).sum=((l.take i).map f).sum+f l[i]:=by rw[cb h,cj,dQ];simp
def CY{f:α->Nat}{l:List α}(h:i<l.length):((l.take i).map f).sum+f l[i]<=(l.map f).sum:=by rw[<- xk h];exact pG
end
end Go.VC
namespace Go.VC.cG
open Go Go.VC Go.Proofs
section
variable {K:PV->List Ob->Prop}
def YG{t:Ty}(a:Ty.le 4294967295 t)(hs:t.size<=4294967295){d:Int}{c1 c2:S}{b c:D}(e:cD t d c1 c2 b c)(h:∀r:Int,r=t.size->K (.int .i64 r) []):
 FT 25 [] [dO d c1 c2 b c] K:=Wn t a hs e h
def F26{env:List IF}{d:D}(x:d=bA dC env)(hl:eH env)(hw:(env.map IF.wt).sum<=4294967280)
 (h:∀r:Int,r=bk (xr env)->K (.int .i64 r) []):FT 26 [] [.lst 97 d] K:=by
 have V:=Kv env;have hn:=hl.1;obtain⟨g,t⟩:∃g:Nat->Nat,g=λi=>env.length+((env.take i).map sP).sum:=⟨_,rfl⟩;have g0:g 0=env.length:=by rw[t];simp
 have gs:∀i (h:i<env.length),g (i+1)=g i+sP env[i]:=λi h=>by rw[t];simp only;rw[xk h];omega
 have gl:∀i,g i<=xr env:=λi=>by rw[t];unfold xr;have:=pG (f:=sP) (l:=env) (i:=i);simp only;omega
 have gn:g env.length=xr env:=by rw[t];unfold xr;simp only;rw[bD]
 clear t;refine en g26 Tryz.func26 λA C L X=>?_;obtain⟨q,n,a⟩:=lenOf x;cbv;refine lu X (λy=>y.1<=q/\y.2=bk (g y.1)) (λy=>q-y.1) (0,A.len d) ⟨bB _,by rw[X.a,a,g0,n]⟩ (λ(y:Nat×Int)=>[(4,.int .i64 y.1),(3,.int .i64 y.2)]) ?_;rintro⟨i,z⟩ ⟨hi,hz⟩;simp only at hi hz;cbv;constructor<;>intro h1
 ·have h5:i<env.length:=lY X.a a h1;have B:=mL X.a x h5;have N:=iX X.a x h5;have ad:=jX X.a h5;have o:=bu h5;have ek:=hl.2 _ o;have lA:env[i].wt<=(env.map IF.wt).sum:=sr o;have F:=xe env[i];have G:=gs i h5;have W:=gl (i+1);clear h1;refine p1 ?_;refine X.call (Z4 B ek yO λdt c=>?_);obtain⟨ts,m⟩:∃ts,ts=eL env[i]:=⟨_,rfl⟩;have c:dt=bA cq ts:=by rw[m];exact c
  have M:∀u∈ts,Ty.le 4294967295 u:=λu hu=>It ek (by rw[<- m];exact hu);have fh:sP env[i]=(ts.map Ty.size).sum+env[i].aliases.length+env[i].deprecated.length:=by rw[m];rfl
  rw[<- m]at F;obtain⟨e,p,b⟩:=lenOf c;cbv;refine lu X (λy=>y.1<=e/\y.2=bk (g i+((ts.take y.1).map Ty.size).sum)) (λy=>e-y.1) (0,z) ⟨bB _,yU hz⟩ (λ(y:Nat×Int)=>[(6,.int .i64 y.1),(3,.int .i64 y.2)]) ?_;rintro⟨j,s⟩ ⟨P,k⟩;simp only at P k;cbv;constructor<;>intro h1
  ·have h6:j<ts.length:=lY X.a b h1;have k2:=gT X.a c h6;have N:=iX X.a c h6;have T:=jX X.a h6;have E:=bu h6;have I:=xk (f:=Ty.size) h6;have Q:=CY (f:=Ty.size) h6;clear h1;refine p1 ?_;refine X.call (YG (M _ E) yO k2 λv R=>?_);have H:v=bk ts[j].size:=R;clear R;have w:A.add s v=bk (g i+((ts.take (j+1)).map Ty.size).sum):=by rw[X.a,fy,I,k,H];simp only[bz];omega
   have O:A.inr .i64 (A.add s v):=by rw[w,X.a,fu];simp only[bz];omega
   refine p1 ?_;exact⟨(j+1,_),⟨yP,w⟩,yP,yc⟩
  have h6:j=e:=gY X.a b h1;rw[h6,p,bD]at k;clear h1 P h6;have la:A.len (A.cell d (bk i) 3)=bk env[i].aliases.length:=by rw[B.2.2.2.1,X.a,da];rfl
  have ld:A.len (A.cell d (bk i) 4)=bk env[i].deprecated.length:=by rw[B.2.2.2.2,X.a,da];rfl
  have w:A.add s (A.len (A.cell d (bk i) 3))=bk (g i+(ts.map Ty.size).sum+env[i].aliases.length):=by rw[la,X.a,fy,k];simp only[bz];omega
  have S:A.add (A.add s (A.len (A.cell d (bk i) 3))) (A.len (A.cell d (bk i) 4))=bk (g (i+1)):=by rw[w,ld,X.a,fy,G,fh];simp only[bz];omega
  have U:A.inr .i64 (A.add s (A.len (A.cell d (bk i) 3))):=by rw[w,X.a,fu];simp only[bz];omega
  have aa:A.inr .i64 (A.add (A.add s (A.len (A.cell d (bk i) 3))) (A.len (A.cell d (bk i) 4))):=by rw[S,X.a,fu];simp only[bz];omega
  refine p1 ?_;exact⟨(i+1,_),⟨yP,S⟩,yP,yc⟩
 have h5:i=q:=gY X.a a h1;rw[h5,n,gn]at hz;cbv;exact h z hz
end
end Go.VC.cG
namespace Go.VC
def vT{a b:S×Int}(h:(gd a b).2=0):a.2=0/\b.2=0:=by
 unfold gd at h;by_cases e:a.2=0
 ·rw[if_neg (yU e)]at h;exact⟨e,h⟩
 ·rw[if_pos e]at h;exact absurd h e
def sc{a b:S×Int}(h:a.2=0):gd a b=b:=by unfold gd;rw[if_neg (yU h)]
def Cc{α:Type}{e:α->Int}{n:α->S}:∀{l:List α},(nU e n l).2=0->∀x∈l,e x=0
 |[],_,x,a=>yE a
 |y::l,h,x,a=>by
  rw[nU]at h;by_cases b:e y=0
  ·rw[if_neg (yU b)]at h;rcases bN.1 a with rfl|a
   ·exact b
   ·exact Cc h x a
  ·rw[if_pos b]at h;exact absurd h b
structure GO (env:List IF) (i:IF):Prop where
 head:Ea i=0
 names:(yb i).2=0
 diff:(A2 i).2=0
 t:∀x∈i.types,xi env i x=0
 v:∀x∈i.values,Bt env x=0
 a:∀x∈i.aliases,pz env x=0
 notes:(ya i).2=0
def LD{env:List IF}{i:IF}(h:(qA env i).2=0):GO env i/\qA env i=([],0):=by unfold qA at h ⊢;obtain⟨h0,h⟩:=vT h;obtain⟨h1,h⟩:=vT h;obtain⟨J,h⟩:=vT h;obtain⟨h3,h⟩:=vT h;obtain⟨h4,h⟩:=vT h;refine⟨?_,by rw[sc h0,sc h1,sc J,sc h3,sc h4]⟩;have h5:=h3;unfold mQ at h5;obtain⟨e1,h5⟩:=vT h5;obtain⟨e2,e3⟩:=vT h5;exact⟨h0,h1,J,Cc e1,Cc e2,Cc e3,h4⟩
def GO.iface{env:List IF}{i:IF}(h:GO env i):qA env i=([],0):=by
 unfold qA;rw[sc h.head,sc h.names,sc h.diff];have h3:mQ env i=([],0):=by unfold mQ;rw[Cd h.t,Cd h.v,Cd h.a];rfl
 rw[h3,sc rfl,sc h.notes]
def Gs{env:List IF}:∀{l:List IF}{p:Option S},(yY env p l).2=0->(∀x∈l,(km env x.path).2=0)/\(∀q,p=some q->∀x∈l,slt q x.path=true)/\l.Pairwise (λa b=>slt a.path b.path=true)
 |[],p,_=>⟨yS,yS,yS⟩
 |x::l,none,h=>by
  rw[yY]at h;by_cases e:(km env x.path).2=0
  ·rw[if_neg (yU e)]at h;obtain⟨a,b,c⟩:=Gs h;refine⟨λy d=>?_,yS,fD.2 ⟨b _ rfl,c⟩⟩;rcases bN.1 d with rfl|d
   ·exact e
   ·exact a y d
  ·rw[if_pos e]at h;exact absurd h e
 |x::l,some p,h=>by
  rw[yY]at h;by_cases e1:x.path=p
  ·rw[if_pos e1]at h;cases h
  ·rw[if_neg e1]at h;by_cases e2:slt x.path p=true
   ·rw[if_pos e2]at h;cases h
   ·rw[if_neg e2]at h;by_cases e:(km env x.path).2=0
    ·rw[if_neg (yU e)]at h;obtain⟨a,b,c⟩:=Gs h
     have f:slt p x.path=true:=by
      cases i:slt p x.path with
      |true=>rfl
      |false=>exact absurd (o5 (yU e2) i) e1
     refine⟨λy d=>?_,λq g y d=>?_,fD.2 ⟨b _ rfl,c⟩⟩
     ·rcases bN.1 d with rfl|d
      ·exact e
      ·exact a y d
     ·cases g;rcases bN.1 d with rfl|d
      ·exact f
      ·exact oh f (b _ rfl y d)
    ·rw[if_pos e]at h;exact absurd h e
def Gh{env:List IF}(h:env.Pairwise (λa b=>slt a.path b.path=true)){x:IF}(c:x∈env):ik env x.path=some x:=by
 unfold ik;induction env with
 |nil=>simp at c
 |cons y l d=>
  rw[fD]at h;rw[cH];rcases bN.1 c with rfl|c
  ·simp
  ·have:(y.path==x.path)=false:=by rw[beq_eq_false_iff_ne];intro e;have:=h.1 x c;rw[e,iA]at this;cases this
   rw[this];exact d h.2 c
structure wj (env:List IF):Prop where
 Wv:env.Pairwise (λa b=>slt a.path b.path=true)
 ok:∀x∈env,GO env x
def LZ{env:List IF}(h:(pX env).2=0):wj env:=by
 unfold pX at h;by_cases e:64<env.length
 ·rw[if_pos e]at h;cases h
 ·rw[if_neg e]at h;obtain⟨h1,J⟩:=vT h;obtain⟨a,b,c⟩:=Gs h1;refine⟨c,λx d=>?_⟩;have:=a x d;unfold km at this;rw[Gh c d]at this;exact(LD this).1
def xh{env:List IF}{i:IF}{x:TE}(h:xi env i x=0):tk env (x.params.map Pm.name) x.lower=0/\tk env (x.params.map Pm.name) x.upper=0/\jY env x.lower [] x.params=true/\jY env x.upper [] x.params=true/\uL i x=true/\jR mr x.params=0:=by
 unfold xi at h;by_cases b:jR mr x.params=0
 ·rw[if_neg (yU b)]at h;by_cases e1:gp [tk env (x.params.map Pm.name) x.lower,tk env (x.params.map Pm.name) x.upper]=0
  ·rw[if_neg (yU e1)]at h;rw[iw,iw]at e1;by_cases e2:tk env (x.params.map Pm.name) x.lower=0
   ·rw[if_pos e2]at e1;by_cases e3:tk env (x.params.map Pm.name) x.upper=0
    ·by_cases a:(!jY env x.lower [] x.params|| !jY env x.upper [] x.params)=true
     ·rw[if_pos a]at h;cases h
     ·rw[if_neg a]at h;by_cases c:uL i x=false
      ·rw[if_pos c]at h;cases h
      ·simp at a;exact⟨e2,e3,a.1,a.2,yU c,b⟩
    ·rw[if_neg e3]at e1;exact absurd e1 e3
   ·rw[if_neg e2]at e1;exact absurd e1 e2
  ·rw[if_pos e1]at h;exact absurd h e1
 ·rw[if_pos b]at h;exact absurd h b
end Go.VC
namespace Go.VC.cG
open Go Go.VC Go.Proofs
end Go.VC.cG
namespace Go.VC
end Go.VC
namespace Go.VC.cG
open Go Go.VC Go.Proofs
end Go.VC.cG
namespace Go.VC
end Go.VC
namespace Go.VC.cG
open Go Go.VC Go.Proofs
end Go.VC.cG
namespace Go.VC
section
variable {env more:List IF}{vs:List S}{t:Ty}{x m n:S}{i:IF}
def qF:∀{l:List Int},gp l=0↔∀e∈l,e=0
 |[]=>by simp[gp]
 |e::l=>by
  rw[iw];by_cases h:e=0
  ·rw[if_pos h,qF];simp[h]
  ·rw[if_neg h];simp[h]
def zS(env more:List IF):Prop:=∀p i,ik env p=some i->ik more p=some i
def Sz:End->Bool
 | .uF _ _ _=>true
 | .val _ _ _=>true
 |_=>false
def vo(h:zS env more):∀(k:Nat)(m n:S),Sz (gg env k m n)=true->gg more k m n=gg env k m n
 |0,m,n,he=>by rw[gg]at he;cases he
 |k+1,m,n,he=>by
  have hl:iV more m n=iV env m n:=by
   cases hf:ik env m with
   |none=>
    have:iV env m n= .none:=by unfold iV;rw[hf]
    rw[gg,this]at he;cases he
   |some i=>unfold iV;rw[hf,h _ _ hf]
  rw[gg,gg,hl];rw[gg]at he;cases a:iV env m n with
  |none=>rfl
  |Az=>rfl
  |uF x=>rfl
  |val x=>rfl
  |SO x=>rw[a]at he;exact vo h k _ _ he
def xf(h:zS env more)(he:(di env m n).2.2=0):di more m n=di env m n:=by
 have a:Sz (gg env 65 m n)=true:=by unfold di at he;cases b:gg env 65 m n<;>rw[b]at he<;>first|rfl|cases he
 unfold di;rw[vo h _ _ _ a]
def CN(h:zS env more)(he:(ji env m n).2.2=0):ji more m n=ji env m n:=by
 have a:Sz (gg env 65 m n)=true:=by unfold ji at he;cases b:gg env 65 m n<;>rw[b]at he<;>first|rfl|cases he
 unfold ji;rw[vo h _ _ _ a]
def MS(env more:List IF)(t:Ty):Prop:=∀u∈t.all,u.k=10->di more u.m u.n=di env u.m u.n
def DD(h:qw env vs t=0):∀u∈t.all,pJ env vs u=0:=by intro u hu;exact qF.1 h _ (bP.2 ⟨u,hu,rfl⟩)
def I2{u:Ty}(h:pJ env vs u=0)(hk:u.k=10):(di env u.m u.n).2.2=0/\(di env u.m u.n).1.params.length=u.ar.length:=by
 unfold pJ at h;rw[if_neg (by rw[hk];decide),if_pos hk]at h;by_cases e:(di env u.m u.n).2.2=0
 ·rw[if_neg (yU e)]at h;by_cases e2:(di env u.m u.n).1.params.length=u.ar.length
  ·exact⟨e,e2⟩
  ·rw[if_pos e2]at h;cases h
 ·rw[if_pos e]at h;exact absurd h e
def CM:tk env vs t=0↔Mg t=0/\qw env vs t=0:=by
 unfold tk;by_cases e:Mg t=0
 ·rw[if_neg (yU e)];simp[e]
 ·rw[if_pos e];simp[e]
def Bp(hs:zS env more)(h:tk env vs t=0):MS env more t:=by intro u hu hk;exact xf hs (I2 (DD (CM.1 h).2 u hu) hk).1
def tj(hs:zS env more)(h:tk env vs t=0):tk more vs t=0:=by
 have hr:=Bp hs h;obtain⟨h1,J⟩:=CM.1 h;refine CM.2 ⟨h1,?_⟩;refine qF.2 λe he=>?_;obtain⟨u,hu,rfl⟩:=bP.1 he;have h3:=DD J u hu;unfold pJ at h3 ⊢;by_cases hk:u.k=10
 ·rw[hr u hu hk];exact h3
 ·by_cases a:u.k=9
  ·rw[if_pos a]at h3 ⊢;exact h3
  ·rw[if_neg a,if_neg hk]
def x7:∀{l:List Ty},(∀t∈l,pV more x t=pV env x t)->mH more x l=mH env x l
 |[],_=>rfl
 |t::l,h=>by rw[mH,mH,h t yS,x7 λu hu=>h u (by simp[hu])]
def x9{ps:List Pm}:∀{i:Nat}{l:List Ty},(∀t∈l,pV more x t=pV env x t)->mI more x ps i l=mI env x ps i l
 |_,[],_=>rfl
 |i,t::l,h=>by rw[mI,mI,h t yS,x9 λu hu=>h u (by simp[hu])]
def x8{sw:Bool}:∀{l:List Fe},(∀f∈l,pV more x f.t=pV env x f.t)->nN more x sw l=nN env x sw l
 |[],_=>rfl
 | .mk s t b::l,h=>by have h1:pV more x t=pV env x t:=h (.mk s t b) yS;rw[nN,nN,h1,x8 λu hu=>h u (by simp[hu])]
def IW:∀(t:Ty),MS env more t->pV more x t=pV env x t:=by
 refine Ty.gj λt d=>?_;intro hr;have c:∀u∈t.er,pV more x u=pV env x u:=λu hu=>d u hu λv e=>hr v (jL hu e);cases t with
 |mk k m n ar fl=>
  rw[pV,pV];by_cases b:k=9
  ·rw[if_pos b,if_pos b]
  ·rw[if_neg b,if_neg b];have ha:∀u∈ar,pV more x u=pV env x u:=λu hu=>c u (dF _ hu);have hf:∀f∈fl,pV more x f.t=pV env x f.t:=λf hf=>c f.t (dI _ (bP.2 ⟨f,hf,rfl⟩));by_cases a:k=10
   ·rw[if_pos a,if_pos a,show di more m n=di env m n from hr _ (gy _) a];exact x9 ha
   ·rw[if_neg a,if_neg a,x7 ha,x8 hf]
def nn(h:MS env more t):∀{ps:List Pm}{seen:List S},jY more t seen ps=jY env t seen ps
 |[],_=>rfl
 |p::l,seen=>by rw[jY,jY,IW t h,nn h,nn h]
def zZ(hs:zS env more):∀{k:Nat}{l:List Pm},xc env vs k l=0->xc more vs k l=0
 |_,[],_=>rfl
 |k,p::l,h=>by
  rw[xc]at h ⊢;by_cases e:tk env (vs.take k) p.bound=0
  ·rw[if_neg (yU e)]at h;rw[if_neg (by simpa using tj hs e)];exact zZ hs h
  ·rw[if_pos e]at h;exact absurd h e
def Iv(hs:zS env more){x:TE}(h:xi env i x=0):xi more i x=0:=by obtain⟨h1,J,h3,h4,h5,h6⟩:=xh h;unfold xi;rw[if_neg (yU h6)];rw[show gp [tk more (x.params.map Pm.name) x.lower,tk more (x.params.map Pm.name) x.upper]=0 by rw[tj hs h1,tj hs J];rfl,if_neg yD];rw[nn (Bp hs h1),nn (Bp hs J),h3,h4,h5];rfl
def Iq(hs:zS env more){x:VE}(h:Bt env x=0):Bt more x=0:=by
 unfold Bt at h ⊢;by_cases e:jR su x.params=0
 ·rw[if_neg (yU e)]at h ⊢;by_cases e2:xc env (x.params.map Pm.name) 0 x.params=0
  ·rw[if_neg (yU e2)]at h;rw[if_neg (by simpa using zZ hs e2)];exact tj hs h
  ·rw[if_pos e2]at h;exact absurd h e2
 ·rw[if_pos e]at h;exact absurd h e
def EG(hs:zS env more){x:AE}(h:pz env x=0):pz more x=0:=by
 unfold pz at h ⊢;split
 ·rename_i e;rw[if_pos e]at h;rw[xf hs h];exact h
 ·rename_i e;rw[if_neg e]at h;split
  ·rename_i e2;rw[if_pos e2]at h;rw[CN hs h];exact h
  ·rename_i e2;rw[if_neg e2]at h;cases h
def GO.mono(hs:zS env more)(h:GO env i):GO more i:=⟨h.head,h.names,h.diff,λx a=>Iv hs (h.t x a),λx a=>Iq hs (h.v x a),λx a=>EG hs (h.a x a),h.notes⟩
end
end Go.VC
