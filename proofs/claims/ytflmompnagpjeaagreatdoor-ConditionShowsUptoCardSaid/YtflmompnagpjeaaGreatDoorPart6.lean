/- Part 6 of the common texts. -/
import Derived.Test.YtflmompnagpjeaaGreatDoorPart5
set_option linter.all false
set_option maxRecDepth 100000
set_option maxHeartbeats 16000000
open And renaming intro→bk
open Bool renaming and_eq_true→bn,and_false→oE,eq_iff_iff→cn,false_and→tp,false_eq_true→cA,not_eq_true→Am,or_eq_true→fS,or_true→xz
open Decidable renaming em→pR
open Eq renaming trans→gv
open Int renaming ofNat→bj,ofNat_eq_natCast→bD,ofNat_inj→HX
open List renaming append_assoc→bL,append_nil→cz,cons_append→dL,dropLast_concat_getLast→B3,drop_eq_getElem_cons→bJ,drop_eq_nil_of_le→fH,drop_length→ch,eq_nil_of_length_eq_zero→cm,find?_cons→cI,find?_eq_none→gg,find?_some→je,flatMap_append→ea,flatMap_cons→eJ,flatMap_nil→Aj,foldl_cons→fy,getD→cx,getElem_mem→br,length→jJ,length_append→bp,length_cons→bI,length_filter_le→jo,length_map→bA,length_nil→bZ,length_singleton→dW,length_take→cF,map_append→bS,map_congr_left→eF,map_cons→bF,map_map→ep,map_nil→ie,map_take→Gc,mem_append→bE,mem_append_left→cy,mem_append_right→cP,mem_cons→bx,mem_filter→hZ,mem_flatMap→cb,mem_map→bH,mem_of_find?_eq_some→cE,mem_of_mem_take→tl,nil_append→jd,nodup_append→dk,nodup_cons→cq,pairwise_cons→dG,perm_ext_iff_of_nodup→oB,singleton_append→KQ,sum_append→dO,sum_cons→bV,sum_nil→oa,take_append_drop→cV,take_length→bz,take_of_length_le→ek
open List.Pairwise renaming imp→se
open List.Perm renaming eq_of_pairwise→AI
open Nat renaming add_mul→dz,le_refl→bX,le_trans→bM,lt_of_le_of_lt→gS,mul_le_mul→lG,one_mul→p4,zero_le→bw
open Ne renaming symm→dZ
open Option renaming getD_some→eR,isSome_iff_exists→eQ,isSome_none→n9,map_some→cv
open Option.some renaming inj→lF,injEq→cw
open Or renaming inl→bB
open Prod renaming ext→fq
namespace Go.VC
noncomputable def qM(env:List IF)(i:IF):S×Int:=iy ([],Fi i) (iy (yM i) (iy (BQ i) (iy (nu env i) (iy (yJ i) ([],0)))))
noncomputable def ku(env:List IF)(p:S):S×Int:=match fF env p with
 |none=>([],6)
 |some i=>qM env i
end Go.VC
namespace Go.VC.cc
open Go Go.VC Go.Proofs
def Xf{env:List IF}{de:D}(he:de=bt dy env)(dJ:ey env)(ec:∀i∈env,i.fit){p:S}{K:PV->List Ob->Prop}(h:∀(s:S)(r:Int),(s,r)=ku env p->K (.tup [.str s,.int .i64 r]) []):
 FT 198 [] [.lst 97 de,.str p] K:=by
 refine en (cf 50) Tryz.func198 λA C L X=>?_;have Y:=fg X.a;have Z:=oY X.a;have dA:=IV X.a;have g:∀k:Nat,k<5->A.inr .i64 (A.add (bj k) 1):=by rw[X.a];exactλk hk=>fN hk yD
 unfold ku at h;cbv;refine X.call (WW he dJ rfl λF c1 c2 w E b hc hb=>?_);cbv;repeat' (first|apply bk|exact zf|(intro J;cbv)|apply bB)
 ·have J:A.not b=true:=J;rw[Y,hb]at J;refine h _ _ ?_;rw[show fF env p=none by simpa using J]
 have J:A.not b=false:=J;rw[Y,hb]at J;obtain⟨i,G⟩:∃i,fF env p=some i:=eQ.1 (yU J);have y:i.fit:=ec i (cE G);rw[G]at hc h;simp only[eR]at hc;clear J hb;have h:∀(s:S)(r:Int),(s,r)=qM env i->K (.tup [.str s,.int .i64 r]) []:=h;obtain⟨m,t⟩:∃x,x=yM i:=⟨_,rfl⟩;obtain⟨E2,z⟩:∃x,x=BQ i:=⟨_,rfl⟩;obtain⟨j,v⟩:∃x,x=nu env i:=⟨_,rfl⟩;obtain⟨l,u⟩:∃x,x=yJ i:=⟨_,rfl⟩;obtain⟨E0,q⟩:∃x,x=(([],Fi i):S×Int):=⟨_,rfl⟩;unfold qM at h;rw[<- q,<-t,<-z,<-v,<-u]at h;cbv;refine X.loop (λ(k:Nat)=>⟨[(36,.int .i64 k),(35,.int .i64 5),(34,.du [.cu 1000245 [.agg [.lst 97 de,.str F,.lst 136 c1,.lst 91 c2,.lst 210 w,.lst 213 E]],.cu 1000246 [.agg [.lst 97 de,.str F,.lst 136 c1,.lst 91 c2,.lst 210 w,.lst 213 E]],.cu 1000247 [.agg [.lst 97 de,.str F,.lst 136 c1,.lst 91 c2,.lst 210 w,.lst 213 E]],.cu 1000248 [.agg [.lst 97 de,.str F,.lst 136 c1,.lst 91 c2,.lst 210 w,.lst 213 E]],.cu 1000249 [.agg [.lst 97 de,.str F,.lst 136 c1,.lst 91 c2,.lst 210 w,.lst 213 E]]] 1000003)],[]⟩) (λk=>k<=5/\(0<k->E0.2=0)/\(1<k->m.2=0)/\(2<k->E2.2=0)/\(3<k->j.2=0)/\(4<k->l.2=0)) (λk=>5-k) 0 ⟨bw _,yS,yS,yS,yS,yS⟩ ?_ ?_
 ·(cbv;repeat' apply bk);all_goals try first|trivial|rfl|(rw[X.a];rfl)
 rintro k ⟨hk,w0,n,B,H,M⟩;have I:k=0\/k=1\/k=2\/k=3\/k=4\/k=5:=yO;rcases I with rfl|rfl|rfl|rfl|rfl|rfl
 ·have a:A.lt (bj 0) 5=true:=by rw[dA];rfl
  have c:A.lt (bj 0) 5≠false:=by rw[a];decide
  have d:∀(s:S)(r:Int),(s,r)=E0->r≠0->(s,r)=iy E0 (iy m (iy E2 (iy j (iy l ([],0))))):=by intro s r e hr;rw[iy,if_pos (by rw[<- e];exact hr),e]
  have f:A.inr .i64 (A.add (bj 0) 1):=g 0 yD;cbv;refine⟨λh1=>?_,λh1=>absurd h1 c⟩;cbv;refine X.call (abf y hc λr0 hr=>?_);have hr:(([]:S),r0)=E0:=by rw[q,hr]
  cbv;repeat' (first|apply bk|exact zf|(intro J;cbv)|apply bB)
  any_goals exact f
  ·have J:A.not (A.eq r0 0)=true:=yA;rw[Y,Z]at J;exact h _ _ (d _ _ hr (yU J))
  ·have J:A.not (A.eq r0 0)=false:=by assumption
   rw[Y,Z]at J;have hz:E0.2=0:=by rw[<- hr];simpa using J
   refine⟨1,⟨yD,λ_=>hz,λh=>absurd h yD,λh=>absurd h yD,λh=>absurd h yD,λh=>absurd h yD⟩,yD,?_⟩
   (cbv;repeat' apply bk);all_goals try first|trivial|rfl|(rw[X.a];rfl)
 ·have a:A.lt (bj 1) 5=true:=by rw[dA];rfl
  have c:A.lt (bj 1) 5≠false:=by rw[a];decide
  have d:∀(s:S)(r:Int),(s,r)=m->r≠0->(s,r)=iy E0 (iy m (iy E2 (iy j (iy l ([],0))))):=by intro s r e hr;rw[iy,if_neg (by rw[w0 yD];decide)];rw[iy,if_pos (by rw[<- e];exact hr),e]
  have f:A.inr .i64 (A.add (bj 1) 1):=g 1 yD;cbv;refine⟨λh1=>?_,λh1=>absurd h1 c⟩;cbv;refine X.call (abe y hc λo r0 hr=>?_);have hr:(o,r0)=m:=by rw[t,hr]
  cbv;repeat' (first|apply bk|exact zf|(intro J;cbv)|apply bB)
  any_goals exact f
  ·have J:A.not (A.eq r0 0)=true:=yA;rw[Y,Z]at J;exact h _ _ (d _ _ hr (yU J))
  ·have J:A.not (A.eq r0 0)=false:=by assumption
   rw[Y,Z]at J;have hz:m.2=0:=by rw[<- hr];simpa using J
   refine⟨2,⟨yD,λ_=>w0 yD,λ_=>hz,λh=>absurd h yD,λh=>absurd h yD,λh=>absurd h yD⟩,yD,?_⟩
   (cbv;repeat' apply bk);all_goals try first|trivial|rfl|(rw[X.a];rfl)
 ·have a:A.lt (bj 2) 5=true:=by rw[dA];rfl
  have c:A.lt (bj 2) 5≠false:=by rw[a];decide
  have d:∀(s:S)(r:Int),(s,r)=E2->r≠0->(s,r)=iy E0 (iy m (iy E2 (iy j (iy l ([],0))))):=by intro s r e hr;rw[iy,if_neg (by rw[w0 yD];decide)];rw[iy,if_neg (by rw[n yD];decide)];rw[iy,if_pos (by rw[<- e];exact hr),e]
  have f:A.inr .i64 (A.add (bj 2) 1):=g 2 yD;cbv;refine⟨λh1=>?_,λh1=>absurd h1 c⟩;cbv;refine X.call (abd y hc λo r0 hr=>?_);have hr:(o,r0)=E2:=by rw[z,hr]
  cbv;repeat' (first|apply bk|exact zf|(intro J;cbv)|apply bB)
  any_goals exact f
  ·have J:A.not (A.eq r0 0)=true:=yA;rw[Y,Z]at J;exact h _ _ (d _ _ hr (yU J))
  ·have J:A.not (A.eq r0 0)=false:=yA;rw[Y,Z]at J;have hz:E2.2=0:=by rw[<- hr];simpa using J
   refine⟨3,⟨yD,λ_=>w0 yD,λ_=>n yD,λ_=>hz,λh=>absurd h yD,λh=>absurd h yD⟩,yD,?_⟩
   (cbv;repeat' apply bk);all_goals try first|trivial|rfl|(rw[X.a];rfl)
 ·have a:A.lt (bj 3) 5=true:=by rw[dA];rfl
  have c:A.lt (bj 3) 5≠false:=by rw[a];decide
  have d:∀(s:S)(r:Int),(s,r)=j->r≠0->(s,r)=iy E0 (iy m (iy E2 (iy j (iy l ([],0))))):=by intro s r e hr;rw[iy,if_neg (by rw[w0 yD];decide)];rw[iy,if_neg (by rw[n yD];decide)];rw[iy,if_neg (by rw[B yD];decide)];rw[iy,if_pos (by rw[<- e];exact hr),e]
  have f:A.inr .i64 (A.add (bj 3) 1):=g 3 yD;cbv;refine⟨λh1=>?_,λh1=>absurd h1 c⟩;cbv;refine X.call (abc he dJ y hc λo r0 hr=>?_);have hr:(o,r0)=j:=by rw[v,hr]
  cbv;repeat' (first|apply bk|exact zf|(intro J;cbv)|apply bB)
  any_goals exact f
  ·have J:A.not (A.eq r0 0)=true:=yA;rw[Y,Z]at J;exact h _ _ (d _ _ hr (yU J))
  ·have J:A.not (A.eq r0 0)=false:=yA;rw[Y,Z]at J;have hz:j.2=0:=by rw[<- hr];simpa using J
   refine⟨4,⟨yD,λ_=>w0 yD,λ_=>n yD,λ_=>B yD,λ_=>hz,λh=>absurd h yD⟩,yD,?_⟩
   (cbv;repeat' apply bk);all_goals try first|trivial|rfl|(rw[X.a];rfl)
 ·have a:A.lt (bj 4) 5=true:=by rw[dA];rfl
  have c:A.lt (bj 4) 5≠false:=by rw[a];decide
  have d:∀(s:S)(r:Int),(s,r)=l->r≠0->(s,r)=iy E0 (iy m (iy E2 (iy j (iy l ([],0))))):=by intro s r e hr;rw[iy,if_neg (by rw[w0 yD];decide)];rw[iy,if_neg (by rw[n yD];decide)];rw[iy,if_neg (by rw[B yD];decide)];rw[iy,if_neg (by rw[H yD];decide)];rw[iy,if_pos (by rw[<- e];exact hr),e]
  have f:A.inr .i64 (A.add (bj 4) 1):=g 4 yD;cbv;refine⟨λh1=>?_,λh1=>absurd h1 c⟩;cbv;refine X.call (abb y hc λo r0 hr=>?_);have hr:(o,r0)=l:=by rw[u,hr]
  cbv;repeat' (first|apply bk|exact zf|(intro J;cbv)|apply bB)
  any_goals exact f
  ·have J:A.not (A.eq r0 0)=true:=yA;rw[Y,Z]at J;exact h _ _ (d _ _ hr (yU J))
  ·have J:A.not (A.eq r0 0)=false:=yA;rw[Y,Z]at J;have hz:l.2=0:=by rw[<- hr];simpa using J
   refine⟨5,⟨yD,λ_=>w0 yD,λ_=>n yD,λ_=>B yD,λ_=>H yD,λ_=>hz⟩,yD,?_⟩
   (cbv;repeat' apply bk);all_goals try first|trivial|rfl|(rw[X.a];rfl)
 ·have a:A.lt (bj 5) 5=false:=by rw[dA];rfl
  have c:A.lt (bj 5) 5≠true:=by rw[a];decide
  cbv;refine⟨λh1=>absurd h1 c,λh1=>?_⟩;cbv;refine h [] 0 ?_;rw[iy,if_neg (by rw[w0 yD];decide),iy,if_neg (by rw[n yD];decide),iy,if_neg (by rw[B yD];decide),iy,if_neg (by rw[H yD];decide),iy,if_neg (by rw[M yD];decide)]
end Go.VC.cc
namespace Go.VC
inductive LR (g:S->List S):S->S->Prop
 |one {a b:S}:b∈g a->LR g a b
 |more {a b c:S}:LR g a b->c∈g b->LR g a c
structure GB (g:S->List S) (T:Nat):Prop where
 sum:∀L:List S,L.Nodup->(L.map λs=>(g s).length).sum<=T
 all:∃QP:List S,QP.length<=T/\∀s e,e∈g s->e∈QP
def GB.one{g:S->List S}{T:Nat}(h:GB g T)(n:S):(g n).length<=T:=by have:=h.sum [n] yS;simpa using this
structure HO (g:S->List S) (n:S) (L W:List S):Prop where
 nd:L.Nodup
 np:n∉L
 DC:∀s∈L,LR g n s
 Q6:∀s∈W,LR g n s
 st:∀e∈g n,e∈L\/e∈W
 cl:∀s∈L,∀e∈g s,e∈L\/e∈W
 len:W.length<=(g n).length+(L.map λs=>(g s).length).sum
def HO.start{g:S->List S}{n:S}:HO g n [] (g n):=⟨yS,yS,yS,λs hs=>.one hs,λe he=>.inr he,yS,yS⟩
def HO.old{g:S->List S}{n s:S}{L W:List S}(h:HO g n L (s::W))(hs:s∈L):HO g n L W:=by
 refine⟨h.nd,h.np,h.DC,λx a=>h.Q6 x (by simp[a]),λe he=>?_,λx a e he=>?_,by have:=h.len;simp at this;omega⟩
 ·rcases h.st e he with h1|h1
  ·exact .inl h1
  ·rcases bx.1 h1 with rfl|h1
   ·exact .inl hs
   ·exact .inr h1
 ·rcases h.cl x a e he with h1|h1
  ·exact .inl h1
  ·rcases bx.1 h1 with rfl|h1
   ·exact .inl hs
   ·exact .inr h1
def HO.new{g:S->List S}{n s:S}{L W:List S}(h:HO g n L (s::W))(hs:s∉L)(d:s≠n):HO g n (L++[s]) (W++g s):=by
 have hr:=h.Q6 s yS;refine⟨?_,?_,?_,?_,?_,?_,?_⟩
 ·rw[dk];exact⟨h.nd,yS,λa ha b hb=>by simp at hb;subst hb;exactλe=>hs (e▸ha)⟩
 ·intro c;rcases bE.1 c with c|c
  ·exact h.np c
  ·simp at c;exact d c.symm
 ·intro x c;rcases bE.1 c with c|c
  ·exact h.DC x c
  ·simp at c;subst c;exact hr
 ·intro x c;rcases bE.1 c with c|c
  ·exact h.Q6 x (by simp[c])
  ·exact .more hr c
 ·intro e he;rcases h.st e he with h1|h1
  ·exact .inl (by simp[h1])
  ·rcases bx.1 h1 with rfl|h1
   ·exact .inl yS
   ·exact .inr (by simp[h1])
 ·intro x c e he;rcases bE.1 c with c|c
  ·rcases h.cl x c e he with h1|h1
   ·exact .inl (by simp[h1])
   ·rcases bx.1 h1 with rfl|h1
    ·exact .inl yS
    ·exact .inr (by simp[h1])
  ·simp at c;subst c;exact .inr (cP _ he)
 ·have a:=h.len;simp only[bI,bp,bS,dO,bF,ie,bV,oa]at*;omega
def HO.fin{g:S->List S}{n:S}{L:List S}(h:HO g n L []):¬LR g n n:=by
 have key:∀s,LR g n s->s∈L:=by
  intro s hr;induction hr with
  |one a=>rcases h.st _ a with h1|h1;exact h1;simp at h1
  |more _ a b=>rcases h.cl _ b _ a with h1|h1;exact h1;simp at h1
 exactλhr=>h.np (key n hr)
def HO.bY{g:S->List S}{n:S}{L W:List S}(h:HO g n L W){T:Nat}(hb:GB g T):L.length<=T:=by
 obtain⟨QP,h1,J⟩:=hb.all;refine bM (fk h.nd λs hs=>?_) h1;have hr:=h.DC s hs;cases hr with
 |one h=>exact J _ _ h
 |more _ h=>exact J _ _ h
def HO.Mz{g:S->List S}{n:S}{L W:List S}(h:HO g n L W){T:Nat}(hb:GB g T):W.length<=2*T:=by have a:=h.len;have b:=hb.sum L h.nd;have c:=hb.one n;omega
structure MM (mm:List (S×D)) (g:S->List S):Prop where
 get:∀s q,fE mm s=some q->q=bt cT (g s)
 no:∀s,fE mm s=none->g s=[]
end Go.VC
namespace Go.VC.cc
open Go Go.VC Go.Proofs
section
variable {K:PV->List Ob->Prop}
def Vj:dH:={tt:=tt,n:=8,own:=[2,5]}
def Xh{l:List S}{d:D}(e:d=bt cT l)(hl:l.length<4294967296)
 (h:∀r,r=bt cT l->K (.row 9 0) [.row 9 r true]):
 FT 181 [] [.lst 9 d] K:=by
 refine eo Vj Tryz.func181 λA C L X=>?_;obtain⟨f,c,a⟩:=lenOf e;cbv;intro b hb;refine p3 (λJ=>?_) (λJ=>?_) (λJ=>?_)
 ·refine h _ ?_;obtain rfl:=X.a;have hb:=hb J;rw[Ac,a,c]at hb;have:l=[]:=cm (by simp only[bD]at hb;omega);rw[this];rfl
 ·obtain rfl:=X.a;simp only[SD,a];omega
 ·refine h _ ?_;obtain rfl:=X.a;rw[e];exact cD (l:=[])
def Vf:dH:={tt:=tt,n:=37,own:=[17]}
def abq{mm:List (S×D)}{g:S->List S}(hm:MM mm g){T:Nat}(hb:GB g T)(hT:T<=268435456){F:D}(G:F=bt (fm r8) mm){n:S}
 (h:∀b,(b=true↔LR g n n)->K (.bool b) []):
 FT 199 [] [.dmp 68 F,.str n] K:=by
 refine eo Vf Tryz.func199 λA C L X=>?_;have Y:=fg X.a;have ak:=OT X.a;have aj:∀p,A.nh F (.str p)=true->A.eY F (.str p) 0=bt cT (g p):=by intro p hp;rw[X.a,G,lD]at hp;obtain⟨q,hq⟩:=eQ.1 hp;rw[X.a,G,lE (f:=r8) hq 0,hm.get p q hq];rfl
 have ah:∀p,A.nh F (.str p)=false->(.list []:D)=bt cT (g p):=by intro p hp;rw[X.a,G,lD]at hp;rw[hm.no p (yU hp)];rfl
 have key:∀dw,dw=bt cT (g n)->∀{st:List Ob},True:=λ_ _ _=>trivial;clear G hm;cbv;repeat' (first|apply bk|exact zf|(intro J;cbv)|apply bB|(refine X.call (Xh (aj n J) (gS (hb.one n) yO) λr0 af=>?_);cbv)|(refine X.call (Xh (ah n J) (gS (hb.one n) yO) λr0 af=>?_);cbv))
 all_goals (
  cbv
  refine X.ka (λ(y:(List S×List S)×D×D×Bool)=>⟨[(6,.row 9 1),(5,.mp 0),(1,.str n),(0,.dmp 68 F)],[.map .str 4 y.2.1,.row 9 y.2.2.1 y.2.2.2]⟩)
   (λy=>HO g n y.1.1 y.1.2/\y.2.2.1=bt cT y.1.2/\∃k,y.2.1=bt cM k/\KT k y.1.1) (λy=>y.1.2.length+(T-y.1.1.length)*(T+1)) (([],g n),.list [],r0,true) ⟨.start,af,[],rfl,KT.nil⟩ ?_ ?_)
 ·exact⟨[0,1],rfl,yc⟩
 rotate_left
 ·exact⟨[0,1],rfl,yc⟩
 all_goals (
  rintro⟨⟨v,W⟩,dm,c,wr⟩ ⟨x,z,k,B,hk⟩;simp only at x z B hk;have E:=x.Mz hb;have av:=x.bY hb;obtain⟨aq,d,m⟩:=lenOf z;cbv;constructor<;>intro h1
  ·have w:A.lt 0 (A.len c)=true:=h1
   match W,z,d,x,E with
   |[],z,d,x,E=>exfalso;obtain rfl:=X.a;rw[m,d]at w;cases w
   |s::W,z,d,x,E=>
   have ao:A.idx 0 (A.len c):=by rw[X.a,z];exact cY (i:=0) yS
   have ks:A.bG (A.cell c 0 0)=s:=pT X.a z (i:=0) yS;have N:A.asBool (A.eY dm (.str (A.bG (A.cell c 0 0))) 0)=decide (s∈v):=by rw[ks,X.a,B];exact uI hk _
   have M:A.lM dm (.str (A.bG (A.cell c 0 0))) [.bool true]=bt cM (lA k s):=by rw[ks,X.a,B];exact pa
   have aa:A.gr 1 (A.len c):=by rw[X.a,z,dp];exact⟨yD,yQ⟩
   have P:A.part c 1 (A.len c)=bt cT W:=by rw[X.a,z,dp];have:=o9 (f:=cT) (l:=s::W) (a:=1) (b:=(s::W).length);simpa using this
   have R:A.nh F (.str (A.bG (A.cell c 0 0)))=true->A.eY F (.str (A.bG (A.cell c 0 0))) 0=bt cT (g s):=by rw[ks];exact aj s
   have Q:A.nh F (.str (A.bG (A.cell c 0 0)))=false->(.list []:D)=bt cT (g s):=by rw[ks];exact ah s
   simp only[bI]at E;clear h1 w;have ai:s∉v->s≠n->∀j,j=bt cT (g s)->A.gr (A.add (A.len c) (A.len j)) 4294967296:=by intro hs hn j o;have U:=(x.new hs hn).Mz hb;simp only[bp]at U;rw[X.a,z,o,dp,dp,fx];refine⟨yQ,yQ⟩
   have H:∀j,j=bt cT (g s)->A.app c j=bt cT (s::(W++g s)):=by intro j o;rw[X.a,z,o];exact cD
   have I:∀j,j=bt cT (g s)->A.gr 1 (A.len (A.app c j)):=by intro j o;rw[H j o,X.a,dp];exact⟨yD,yQ⟩
   have t:∀j,j=bt cT (g s)->A.part (A.app c j) 1 (A.len (A.app c j))=bt cT (W++g s):=by intro j o;rw[H j o,X.a,dp];have:=o9 (f:=cT) (l:=s::(W++g s)) (a:=1) (b:=(s::(W++g s)).length);rw[List.drop_one,List.tail_cons,ek yS]at this;exact this
   have O:s∉v->s≠n->(W++g s).length+(T-(v++[s]).length)*(T+1)<(s::W).length+(T-v.length)*(T+1):=by intro hs hn;have ad:=(x.new hs hn).bY hb;have ar:=hb.one s;simp only[bp,dW]at ad;have:T-v.length=(T-(v.length+1))+1:=yO;have e2:(v++[s]).length=v.length+1:=yS;rw[e2,this,dz,p4,bp,bI];omega
   have V:=hk.add s;have ac:A.seq (A.bG (A.cell c 0 0)) n=(s==n):=by rw[ks,ak]
   have r:A.not (A.asBool (A.eY dm (.str (A.bG (A.cell c 0 0))) 0))=true->s∉v:=by intro e;rw[Y,N]at e;simpa using e
   have u:A.seq (A.bG (A.cell c 0 0)) n=false->s≠n:=by intro e;rw[ac]at e;simpa using e
   cbv;repeat' (first|apply bk|exact zf|(intro J;cbv)|apply bB)
   any_goals first|exact ao|exact aa
   any_goals first|exact ai (r yA) (u yA) _ (R yA)|exact ai (r yA) (u yA) _ (Q yA)|exact I _ (R yA)|exact I _ (Q yA)
   ·have e:A.seq (A.bG (A.cell c 0 0)) n=true:=yA;rw[ac]at e;have e:=eq_of_beq e;exact h true (Iff.intro (λ_=>e▸x.Q6 s yS) (λ_=>rfl))
   ·have e1:=r yA;have e2:=u yA;exact⟨((v++[s],W++g s),_,_,false),⟨x.new e1 e2,t _ (R yA),_,M,V⟩,O e1 e2,[0,1],rfl,yc⟩
   ·have e1:=r yA;have e2:=u yA;exact⟨((v++[s],W++g s),_,_,false),⟨x.new e1 e2,t _ (Q yA),_,M,V⟩,O e1 e2,[0,1],rfl,yc⟩
   ·have e1:A.not (A.asBool (A.eY dm (.str (A.bG (A.cell c 0 0))) 0))=false:=yA;rw[Y,N]at e1;have hs:s∈v:=yU e1;exact⟨((v,W),_,_,false),⟨x.old hs,P,k,B,hk⟩,by simp only[bI];omega,[0,1],rfl,yc⟩
  ·have w:A.lt 0 (A.len c)=false:=h1;have al:W=[]:=by obtain rfl:=X.a;rw[m,kU]at w;have:=of_decide_eq_false w;exact cm (by simp only[bD]at this;omega)
   subst al;have ag:=x.fin;cbv;exact h false (Iff.intro (λe=>absurd e yD) (λe=>absurd e ag))
 )
end
end Go.VC.cc
namespace Go.VC
open Classical in
noncomputable def qK(x:IF):List S:=if h:∃l:List S,mz l/\∀s,s∈l↔s∈yT x then h.choose else []
def Lz{l c:List S}(h:mz l)(f:mz c)(he:∀s,s∈l↔s∈c):l=c:=by have nd:∀{l:List S},mz l->l.Nodup:=λh=>se (λ{a b} h e=>by subst e;rw[gk]at h;cases h) h;have g:l.Perm c:=(oB (nd h) (nd f)).2 he;have d:∀a b:S,slt a b=true->slt b a=true->a=b:=λa b h1 J=>absurd (mC h1 J) (by rw[gk];decide);exact AI (le:=λa b=>slt a b=true) (λa b _ _ h1 J=>d a b h1 J) h f g
def CQ{x:IF}{l:List S}(h1:mz l)(J:∀s,s∈l↔s∈yT x):l=qK x:=by have a:∃l:List S,mz l/\∀s,s∈l↔s∈yT x:=⟨l,h1,J⟩;unfold qK;rw[dif_pos a];exact Lz h1 a.choose_spec.1 λs=>(J s).trans (a.choose_spec.2 s).symm
def EH{x:IF}{s:S}(h:s∈qK x):s∈yT x:=by
 unfold qK at h;split at h
 ·rename_i a;exact(a.choose_spec.2 s).1 h
 ·simp at h
def Ml(x:IF):(qK x).length<=x.wt:=by
 refine bM ?_ (vz x);have nd:∀{l:List S},mz l->l.Nodup:=λh=>se (λ{a b} h e=>by subst e;rw[gk]at h;cases h) h;by_cases c:∃l:List S,mz l/\∀s,s∈l↔s∈yT x
 ·have e:qK x=c.choose:=by unfold qK;rw[dif_pos c]
  refine fk (by rw[e];exact nd c.choose_spec.1) λs hs=>?_;exact(hZ.1 (EH hs)).1
 ·unfold qK;rw[dif_neg c];exact bw _
noncomputable def Ga(env:List IF)(s:S):List S:=match env.reverse.find? λx=>x.path==s with|some x=>qK x|none=>[]
def Fk(env:List IF)(x:IF)(s:S):Ga (env++[x]) s=if x.path=s then qK x else Ga env s:=by
 unfold Ga;rw[List.reverse_append,List.reverse_singleton,KQ,cI];by_cases h:x.path=s
 ·have:(x.path==s)=true:=yU h;rw[this,if_pos h]
 ·have:(x.path==s)=false:=yU h;rw[this,if_neg h]
def AV{α:Type}(key:α->S):∀(l:List α)(f:α->Nat)(L:List S),L.Nodup->(L.map λn=>((l.find? λx=>key x==n).map f).getD 0).sum<=(l.map f).sum
 |[],f,L,_=>by
  have:∀L:List S,(L.map λn=>((([]:List α).find? λx=>key x==n).map f).getD 0).sum=0:=by
   intro L;induction L with
   |nil=>rfl
   |cons s L d=>rw[bF,bV,d];rfl
  rw[this];exact bw _
 |x::l,f,L,c=>by
  have d:=AV key l f L c
  have key:(L.map λn=>(((x::l).find? λy=>key y==n).map f).getD 0).sum<=f x+(L.map λn=>((l.find? λy=>key y==n).map f).getD 0).sum:=by
   clear d;induction L with
   |nil=>simp
   |cons s L b=>
    rw[cq]at c;have b:=b c.2;simp only[bF,bV];by_cases hs:key x=s
    ·have hb:(key x==s)=true:=yU hs
     have a:∀n∈L,(((x::l).find? λy=>key y==n).map f).getD 0=((l.find? λy=>key y==n).map f).getD 0:=by
      intro n g;have:(key x==n)=false:=by rw[beq_eq_false_iff_ne];intro e;exact c.1 (by rw[<- hs,e];exact g)
      rw[cI,this]
     rw[eF a,cI,hb];simp only[cv,eR];omega
    ·have hb:(key x==s)=false:=yU hs;rw[cI,hb];simp only;omega
  simp only[bF,bV];omega
def Sw(env:List IF):GB (Ga env) (env.map IF.wt).sum:=by
 have a:(env.reverse.map IF.wt).sum=(env.map IF.wt).sum:=by rw[List.map_reverse,List.sum_reverse]
 refine⟨λL b=>?_,env.flatMap Bm,lx λx _=>vz x,λs e he=>?_⟩
 ·rw[<- a];refine bM ?_ (AV IF.path env.reverse IF.wt L b)
  have key:∀L:List S,(L.map λs=>(Ga env s).length).sum<=(L.map λn=>((env.reverse.find? λx=>x.path==n).map IF.wt).getD 0).sum:=by
   intro L;induction L with
   |nil=>exact bX _
   |cons s L c=>
    simp only[bF,bV];refine Nat.add_le_add ?_ c;unfold Ga;cases h:env.reverse.find? λx=>x.path==s with
    |none=>simp
    |some x=>simpa using Ml x
  exact key L
 ·unfold Ga at he;cases h:env.reverse.find? λx=>x.path==s with
  |none=>rw[h]at he;simp at he
  |some x=>rw[h]at he;have d:=List.mem_reverse.1 (cE h);exact cb.2 ⟨x,d,(hZ.1 (EH he)).1⟩
def MM.put{mm:List (S×D)}{env:List IF}(h:MM mm (Ga env))(x:IF):MM (iV x.path (bt cT (qK x)) mm) (Ga (env++[x])):=by
 refine⟨λs q a=>?_,λs a=>?_⟩
 ·rw[Fk];rw[ll]at a;by_cases e:x.path=s
  ·rw[if_pos e.symm]at a;rw[if_pos e];exact(lF a).symm
  ·rw[if_neg (dZ e)]at a;rw[if_neg e];exact h.get s q a
 ·rw[Fk];rw[ll]at a;by_cases e:x.path=s
  ·rw[if_pos e.symm]at a;cases a
  ·rw[if_neg (dZ e)]at a;rw[if_neg e];exact h.no s a
def MM.nil:MM [] (Ga []):=⟨λs q a=>absurd a (by simp[fE]),λs _=>rfl⟩
noncomputable def uw(env:List IF):Option S->List IF->S×Int
 |_,[]=>([],0)
 |none,x::l=>if(ku env x.path).2≠0 then(x.path,(ku env x.path).2)else uw env (some x.path) l
 |some p,x::l=>if x.path=p then(x.path,5)else if slt x.path p=true then(x.path,1)else if(ku env x.path).2≠0 then(x.path,(ku env x.path).2)else uw env (some x.path) l
open Classical in
noncomputable def Sh(env:List IF)(x:IF):Int:=if LR (Ga env) x.path x.path then 14 else 0
noncomputable def qf(env:List IF):S×Int:=if 64<env.length then([],7)else iy (uw env none env) (ow (Sh env) IF.path env)
end Go.VC
namespace Go.VC.cc
open Go Go.VC Go.Proofs
def abG{env:List IF}{de:D}(he:de=bt dy env)(dJ:ey env)(ec:∀i∈env,i.fit)(mi:(env.map IF.wt).sum<=268435456){K:PV->List Ob->Prop}(h:∀(s:S)(r:Int),(s,r)=qf env->K (.tup [.str s,.int .i64 r]) []):
 FT 153 [] [.lst 97 de] K:=by
 refine en ZK Tryz.func153 λA C L X=>?_;have Y:=fg X.a;have Z:=oY X.a;have dA:=IV X.a;have v:=OT X.a;have F:=slA X.a;have l1:A.len de=bj env.length:=gE X.a he;obtain⟨d,m,a⟩:=lenOf he;unfold qf at h;cbv;repeat' (first|apply bk|exact zf|(intro J;cbv)|apply bB)
 ·have J:A.lt 64 (A.len de)=true:=J;rw[dA,l1]at J;have h3:=of_decide_eq_true J;simp only[bD]at h3;exact h _ _ (by rw[if_pos yO])
 have T:¬64<env.length:=by have J:A.lt 64 (A.len de)=false:=J;rw[dA,l1]at J;have h3:=of_decide_eq_false J;simp only[bD]at h3;omega
 rw[if_neg T]at h;clear J;obtain⟨E0,O⟩:∃x,x=uw env none env:=⟨_,rfl⟩;obtain⟨E1,R⟩:∃x,x=ow (Sh env) IF.path env:=⟨_,rfl⟩;rw[<- O,<-R]at h;cbv
 refine X.ka (λ(y:Nat×D)=>⟨[(17,.int .i64 y.1),(16,.int .i64 (A.len de)),(15,.lst 97 de),(4,.mp 0),(0,.lst 97 de)],[.map .str 68 y.2]⟩)
  (λy=>y.1<=d/\E0=uw env (mc (env.map IF.path) y.1) (env.drop y.1)/\∃mm,y.2=bt (fm r8) mm/\MM mm (Ga (env.take y.1))) (λy=>d-y.1) (0,.list []) ⟨bw _,O,[],rfl,MM.nil⟩ ?_ ?_
 ·exact⟨[0],rfl,yc⟩
 rintro⟨j,dM⟩ ⟨hj,k,mm,M,u⟩;simp only at hj k M u;cbv;constructor<;>intro h1
 ·have h5:j<env.length:=lY X.a a h1;have N:=ot X.a he h5;have g:=N.1;have I:=iX X.a he h5;have w:=jX X.a h5;have ab:A.lt 0 (bj j)=true->A.inr .i64 (A.sub (bj j) 1):=by intro h;rw[dA]at h;have h:=of_decide_eq_true h;rw[X.a];simp only[SD]at *;omega
  have aa:A.lt 0 (bj j)=true->A.idx (A.sub (bj j) 1) (A.len de):=by intro h;rw[dA]at h;have h:=of_decide_eq_true h;rw[X.a]at *;simp only[a,SD]at *;omega
  have ac:A.lt 0 (bj j)=true->∃p,mc (env.map IF.path) j=some p/\A.bG (A.cell de (A.sub (bj j) 1) 0)=p:=by
   intro h;rw[dA]at h;have h:=of_decide_eq_true h;simp only[bD]at h;have V:j-1<env.length:=yO;refine⟨env[j-1].path,?_,?_⟩
   ·rw[mc,if_neg yO];simp[cx,V]
   ·rw[show A.sub (bj j) 1=bj (j-1)by rw[X.a];simp only[SD];omega];exact(ot X.a he V).1
  have ae:A.lt 0 (bj j)=false->mc (env.map IF.path) j=none:=by intro h;rw[dA]at h;have h:=of_decide_eq_false h;simp only[bD]at h;rw[mc,if_pos yO]
  have U:mc (env.map IF.path) (j+1)=some env[j].path:=by rw[mc,if_neg yO];simp[cx,h5]
  have Q:env[j].wt<=4294967295:=bM (ql (br h5)) (bM mi yD);have z:∀l r,r=bt cT l->l=qK env[j]->A.lM dM (.str (A.bG (A.cell de (bj j) 0))) [r]=bt (fm r8) (iV env[j].path (bt cT (qK env[j])) mm):=by intro l r hr hl;rw[g,X.a,M,hr,hl];exact lB (f:=r8)
  have P:env.take (j+1)=env.take j++[env[j]]:=cj h5;rw[bJ h5]at k;cases hz:A.lt 0 (bj j)with
  |true=>
   obtain⟨p,ad,n⟩:=ac hz;rw[ad,uw]at k;cbv;repeat' (first|apply bk|exact zf|(intro J;first|exact yB hz J|cbv)|apply bB|(refine X.call (Xf he dJ ec λW o c=>?_);cbv))
   any_goals first|exact I|exact w|exact ab hz|exact aa hz
   ·have h3:A.seq (A.bG (A.cell de (bj j) 0)) (A.bG (A.cell de (A.sub (bj j) 1) 0))=true:=yA;rw[g,n,v]at h3;rw[if_pos (yU h3)]at k;refine h _ 5 ?_;rw[k,iy,if_pos (show (5:Int)≠0 by decide)];exact fq g rfl
   ·have h3:A.seq (A.bG (A.cell de (bj j) 0)) (A.bG (A.cell de (A.sub (bj j) 1) 0))=false:=yA;have h4:A.slt (A.bG (A.cell de (bj j) 0)) (A.bG (A.cell de (A.sub (bj j) 1) 0))=true:=yA;rw[g,n,v]at h3;rw[g,n,F]at h4;rw[if_neg (yU h3),if_pos h4]at k;refine h _ 1 ?_;rw[k,iy,if_pos (show (1:Int)≠0 by decide)];exact fq g rfl
   ·have h3:A.seq (A.bG (A.cell de (bj j) 0)) (A.bG (A.cell de (A.sub (bj j) 1) 0))=false:=yA;have h4:A.slt (A.bG (A.cell de (bj j) 0)) (A.bG (A.cell de (A.sub (bj j) 1) 0))=false:=yA;have c:(W,o)=ku env env[j].path:=by rw[<- g];exact c
    rw[g,n,v]at h3;rw[g,n,F]at h4;rw[Y,Z]at J;rw[if_neg (yU h3),if_neg (by rw[h4];decide),<-c,if_pos (yU J)]at k;refine h _ o ?_;rw[k,iy,if_pos (show o≠0 by simpa using J)];exact fq g rfl
   ·have h3:A.seq (A.bG (A.cell de (bj j) 0)) (A.bG (A.cell de (A.sub (bj j) 1) 0))=false:=yA;have h4:A.slt (A.bG (A.cell de (bj j) 0)) (A.bG (A.cell de (A.sub (bj j) 1) 0))=false:=yA;have c:(W,o)=ku env env[j].path:=by rw[<- g];exact c
    rw[g,n,v]at h3;rw[g,n,F]at h4;rw[Y,Z]at J;have h6:o=0:=yU J;rw[if_neg (yU h3),if_neg (by rw[h4];decide),<-c,if_neg (show ¬o≠0 fromλe=>e h6)]at k;refine X.call (TB N (dJ.2 _ (br h5)) Q λl r hr H E=>?_);have hp:=z l r hr (CQ H E);have G:MM (iV env[j].path (bt cT (qK env[j])) mm) (Ga (env.take (j+1))):=by rw[P];exact u.put _
    refine p1 ?_;refine⟨(j+1,_),⟨yP,?_,_,hp,G⟩,yP,[0],rfl,?_⟩
    ·rw[U];exact k
    exact yc
  |false=>
   rw[ae hz,uw]at k;cbv;repeat' (first|apply bk|exact zf|(intro J;first|exact yB hz J|cbv)|apply bB|(refine X.call (Xf he dJ ec λW o c=>?_);cbv))
   any_goals first|exact I|exact w
   ·have c:(W,o)=ku env env[j].path:=by rw[<- g];exact c
    rw[Y,Z]at J;rw[<- c,if_pos (yU J)]at k;refine h _ o ?_;rw[k,iy,if_pos (show o≠0 by simpa using J)];exact fq g rfl
   ·have c:(W,o)=ku env env[j].path:=by rw[<- g];exact c
    rw[Y,Z]at J;have h6:o=0:=yU J;rw[<- c,if_neg (show ¬o≠0 fromλe=>e h6)]at k;refine X.call (TB N (dJ.2 _ (br h5)) Q λl r hr H E=>?_);have hp:=z l r hr (CQ H E);have G:MM (iV env[j].path (bt cT (qK env[j])) mm) (Ga (env.take (j+1))):=by rw[P];exact u.put _
    refine p1 ?_;refine⟨(j+1,_),⟨yP,?_,_,hp,G⟩,yP,[0],rfl,?_⟩
    ·rw[U];exact k
    exact yc
 ·have h5:j=d:=gY X.a a h1;have z0:E0=([],0):=by rw[k,h5,m,ch];unfold uw;cases mc (env.map IF.path) env.length<;>rfl
  rw[h5,m,bz]at u;cbv
  refine X.Mq (λ(y:Nat)=>⟨[(74,.int .i64 y),(73,.int .i64 (A.len de)),(72,.lst 97 de),(4,.dmp 68 dM)],[]⟩)
   (λy=>y<=d/\E1=ow (Sh env) IF.path (env.drop y)) (λy=>d-y) 0 ⟨bw _,R⟩ ?_ ?_
  ·exact⟨[0],[],[],rfl,yc⟩
  rintro q ⟨ak,t⟩;cbv;constructor<;>intro h1
  ·have h5:q<env.length:=lY X.a a h1;have N:=ot X.a he h5;have g:=N.1;have I:=iX X.a he h5;have w:=jX X.a h5;rw[bJ h5,ow]at t;refine p1 ?_;refine X.call (abq u (Sw env) mi M λb hb=>?_);cbv;repeat' (first|apply bk|exact zf|(intro J;cbv)|apply bB)
   any_goals exact w
   ·have J:b=true:=yA;have hb:b=true↔LR (Ga env) env[q].path env[q].path:=by rw[<- g];exact hb
    have B:Sh env env[q]=14:=by unfold Sh;rw[if_pos (hb.1 J)]
    rw[B,if_pos yD]at t;refine h _ 14 ?_;rw[z0,iy,if_neg yD,t];exact fq g rfl
   ·have J:b=false:=yA;have hb:b=true↔LR (Ga env) env[q].path env[q].path:=by rw[<- g];exact hb
    have B:Sh env env[q]=0:=by unfold Sh;rw[if_neg (λe=>by have:=hb.2 e;rw[J]at this;cases this)]
    rw[B,if_neg (by decide)]at t;exact⟨q+1,⟨yO,t⟩,yO,[],[],[],rfl,yc⟩
  ·have h5:q=d:=gY X.a a h1;cbv;refine h [] 0 ?_;rw[z0,t,h5,m,ch];rfl
end Go.VC.cc
namespace Go.VC
section
def wY(s:S):List S->List S
 |[]=>[s]
 |x::l=>if slt x s then x::wY s l else if x=s then x::l else s::x::l
def zr{s y:S}:∀{l:List S},y∈wY s l↔y=s\/y∈l
 |[]=>by simp[wY]
 |x::l=>by
  unfold wY;split
  ·rw[bx,zr (l:=l),bx];constructor
   ·rintro(h|h|h);exact .inr (.inl h);exact .inl h;exact .inr (.inr h)
   ·rintro(h|h|h);exact .inr (.inl h);exact .inl h;exact .inr (.inr h)
  ·split
   ·rename_i h;subst h;simp
   ·simp
def Fb{s:S}:∀{l:List S},mz l->mz (wY s l)
 |[],_=>by unfold wY mz;simp
 |x::l,h=>by
  obtain⟨h1,J⟩:=dG.1 h;unfold wY;split
  ·rename_i e;refine dG.2 ⟨λy a=>?_,Fb J⟩;rcases zr.1 a with rfl|a
   ·exact e
   ·exact h1 y a
  ·rename_i e;split
   ·exact h
   ·rename_i c
    have b:slt s x=true:=by
     cases hb:slt s x with
     |true=>rfl
     |false=>exact absurd (nP (yU e) hb) c
    refine dG.2 ⟨λy a=>?_,h⟩;rcases bx.1 a with rfl|a
    ·exact b
    ·exact mC b (h1 y a)
section
variable {α:Type}{f:α->List D}{l:List α}{i:Nat}{y:α}{ys:List D}{A:pP}{d:D}
def aai(ha:A=Std)(a:d=bt f l):A.app (A.lit []) (A.part d 0 (bj i))=bt f (l.take i):=by rw[ha,a,vV,show Std.lit []=bt f []from rfl,cD];simp
def NH(ha:A=Std)(a:d=bt f l)(b:ys=f y):A.app (A.app (A.lit []) (A.part d 0 (bj i))) (A.lit [ys])=bt f (l.take i++[y]):=by rw[aai ha a,ha,b];exact cD (k:=[y])
end
def pU(l:List S):List S:=l.foldl (λa s=>wY s a) []
def vJ:∀(l:List S)(a:List S),mz a->mz (l.foldl (λa s=>wY s a) a)/\∀y,y∈l.foldl (λa s=>wY s a) a↔y∈l\/y∈a
 |[],a,h=>⟨h,yS⟩
 |x::l,a,h=>by
  obtain⟨h1,J⟩:=vJ l (wY x a) (Fb h);refine⟨h1,λy=>?_⟩;rw[fy,J,zr,bx];constructor
  ·rintro(h|h|h);exact .inl (.inr h);exact .inl (.inl h);exact .inr h
  ·rintro((h|h)|h);exact .inr (.inl h);exact .inl h;exact .inr (.inr h)
def AW(l:List S):mz (pU l):=(vJ l [] (by unfold mz;simp)).1
def ve(l:List S)(y:S):y∈pU l↔y∈l:=by unfold pU;rw[(vJ l [] (by unfold mz;simp)).2];simp
def LC{l m:List S}(h:mz l)(a:∀s,s∈l↔s∈m):l=pU m:=F1 h (AW m) λs=>by rw[a,ve]
end
end Go.VC
namespace Go.VC.cc
open Go Go.VC Go.Proofs
end Go.VC.cc
namespace Go.VC
def Sr(a l:List S):List S:=l.foldl (λa s=>wY s a) a
end Go.VC
namespace Go.VC.cc
open Go Go.VC Go.Proofs
end Go.VC.cc
namespace Go.VC
end Go.VC
namespace Go.VC.cc
open Go Go.VC Go.Proofs
end Go.VC.cc
namespace Go.VC
def iY(t:Ty):t.eA.length+1<=t.size:=by
 rw[size_eq]
 have:∀l:List Ty,l.length<=(l.map Ty.size).sum:=by
  intro l;induction l with
  |nil=>simp
  |cons x l a=>simp only[bI,bF,bV];have:=size_eq x;omega
 have:=this t.eA;omega
def pS{α:Type}{f:α->Nat}{l:List α}{i:Nat}:((l.take i).map f).sum<=(l.map f).sum:=by rw[Gc];exact wc
def LG{t u:Ty}(h:u∈t.eA):u.size+1<=t.size:=by
 rw[size_eq t]
 have:∀l:List Ty,u∈l->u.size<=(l.map Ty.size).sum:=by
  intro l;induction l with
  |nil=>simp
  |cons x l b=>
   intro a;rcases bx.1 a with rfl|a
   ·simp
   ·have:=b a;simp;omega
 have:=this _ h;omega
end Go.VC
namespace Go.VC.cc
open Go Go.VC Go.Proofs
end Go.VC.cc
namespace Go.VC
def eL(e:TE):List Ty:=[e.lower,e.upper]++e.params.map (·.bound)
def fU(e:VE):List Ty:=[e.ty]++e.params.map (·.bound)
def cW(x:IF):List Ty:=x.types.flatMap eL++x.values.flatMap fU
def kY{α β:Type}{f:α->List β}{l:List α}{i:Nat}(h:i<l.length):((l.take i).flatMap f).length+(f l[i]).length<=(l.flatMap f).length:=by
 have e:l.flatMap f=(l.take (i+1)).flatMap f++(l.drop (i+1)).flatMap f:=by rw[<- ea,cV]
 rw[e,fu h,bp,bp];omega
end Go.VC
namespace Go.VC.cc
open Go Go.VC Go.Proofs
def Y9:dH:={tt:=tt,n:=96,iU:=g41.iU,own:=[8]}
def F41{x:IF}{F:S}{c1 c2 B E:D}{K:PV->List Ob->Prop}(hx:lQ x F c1 c2 B E)(dJ:x.ok)(hw:(cW x).length<=4294967290)
 (h:∀r,r=bt ca (cW x)->K (.lst 29 r) []):FT 41 [] [qN F c1 c2 B E] K:=by
 obtain⟨x0,t,u,av,ar⟩:=hx;have nt:=dJ.nt;have nv:=dJ.nv;have ak:(cW x).length=(x.types.flatMap eL).length+(x.values.flatMap fU).length:=by unfold cW;rw[bp]
 refine en Y9 Tryz.func41 λA C L X=>?_;obtain⟨o,q,e⟩:=lenOf t;obtain⟨m,s,g⟩:=lenOf u;cbv;refine lP X (λy=>y.1<=o/\y.2=bt ca ((x.types.take y.1).flatMap eL)) (λy=>o-y.1) (0,A.lit []) ⟨bw _,yX⟩ [0,1] (λ(y:Nat×D)=>⟨[(4,.int .i64 y.1),(3,.row 29 1),(1,.box 0 0)],[.box [.str F,.lst 136 c1,.lst 91 c2,.lst 210 B,.lst 213 E],.row 29 y.2 true]⟩) ?_;rintro⟨i,r⟩ ⟨Q,hr⟩;simp only at Q hr;cbv;constructor<;>intro h1
 ·have h5:i<x.types.length:=lY X.a e h1;obtain⟨k0,p,⟨m0,m1,U,V,m4⟩,⟨u0,u1,u2,u3,u4⟩⟩:=mQ X.a t h5;have z:=iX X.a t h5;have ac:=jX X.a h5;have ae:=kY (f:=eL) h5;have w:=fu (f:=eL) h5;have W:(eL x.types[i]).length=2+x.types[i].params.length:=by unfold eL;simp;omega
  have v:((x.types.take i).flatMap eL).length+2+x.types[i].params.length<=4294967290:=by first|omega|(simp only[bp];omega)
  have q1:A.app r (A.lit [[.int (A.asInt (A.cell c1 (bj i) 2)),.str (A.bG (A.cell c1 (bj i) 3)),.str (A.bG (A.cell c1 (bj i) 4)),A.cell c1 (bj i) 5,A.cell c1 (bj i) 6],[.int (A.asInt (A.cell c1 (bj i) 7)),.str (A.bG (A.cell c1 (bj i) 8)),.str (A.bG (A.cell c1 (bj i) 9)),A.cell c1 (bj i) 10,A.cell c1 (bj i) 11]])=bt ca ((x.types.take i).flatMap eL++[x.types[i].lower,x.types[i].upper]++(x.types[i].params.take 0).map (·.bound)):=by rw[m0,m1,U,V,m4,u0,u1,u2,u3,u4,<-dn,<-dn,X.a,hr];refine(cD (f:=ca) (k:=[x.types[i].lower,x.types[i].upper])).trans ?_;simp
  have b1:A.gr (A.add (A.len r) (A.len (A.lit [[.int (A.asInt (A.cell c1 (bj i) 2)),.str (A.bG (A.cell c1 (bj i) 3)),.str (A.bG (A.cell c1 (bj i) 4)),A.cell c1 (bj i) 5,A.cell c1 (bj i) 6],[.int (A.asInt (A.cell c1 (bj i) 7)),.str (A.bG (A.cell c1 (bj i) 8)),.str (A.bG (A.cell c1 (bj i) 9)),A.cell c1 (bj i) 10,A.cell c1 (bj i) 11]]))) 4294967296:=by rw[X.a,hr,dp,lC];exact⟨by rw[fx];omega,by rw[fx];simp only[bI,bZ];omega⟩
  refine p1 ?_;obtain⟨N,d⟩:∃N,N=A.cell c1 (bj i) 1:=⟨_,rfl⟩;rw[<- d]at p;obtain⟨a,l,c⟩:=lenOf p;refine lP X (λy=>y.1<=a/\y.2=bt ca ((x.types.take i).flatMap eL++[x.types[i].lower,x.types[i].upper]++(x.types[i].params.take y.1).map (·.bound))) (λy=>a-y.1) (0,_) ⟨bw _,q1⟩ [0,1] (λ(y:Nat×D)=>⟨[(5,.int .i64 y.1),(4,.int .i64 i),(3,.row 29 1),(1,.box 0 0)],[.box [.str F,.lst 136 c1,.lst 91 c2,.lst 210 B,.lst 213 E],.row 29 y.2 true]⟩) ?_;rintro⟨j,r2⟩ ⟨hj,b⟩;simp only at hj b;have n:A.len (A.cell c1 (bj i) 1)=bj a:=by rw[<- d,X.a];exact c
  cbv;refine⟨z,?_⟩;constructor<;>intro h1
  ·have h6:j<x.types[i].params.length:=by have h1:A.lt (bj j) (A.len (A.cell c1 (bj i) 1))=true:=h1;rw[n]at h1;obtain rfl:=X.a;simp only[SD]at h1;omega
   obtain⟨w0,w1,R,I,G,O,M⟩:=im X.a p h6;rw[d]at R I G O M;have H:A.idx (bj j) (A.len (A.cell c1 (bj i) 1)):=by rw[<- d,X.a,p];exact cY h6
   have T:=jX X.a h6;have P:((x.types.take i).flatMap eL++[x.types[i].lower,x.types[i].upper]++(x.types[i].params.take j).map (·.bound)).length<=4294967290:=by simp only[bp,bA,cF,bI,bZ]at v ⊢;omega
   have q2:A.app r2 (A.lit [[.int (A.asInt (A.cell (A.cell c1 (bj i) 1) (bj j) 2)),.str (A.bG (A.cell (A.cell c1 (bj i) 1) (bj j) 3)),.str (A.bG (A.cell (A.cell c1 (bj i) 1) (bj j) 4)),(A.cell (A.cell c1 (bj i) 1) (bj j) 5),(A.cell (A.cell c1 (bj i) 1) (bj j) 6)]])=bt ca ((x.types.take i).flatMap eL++[x.types[i].lower,x.types[i].upper]++(x.types[i].params.take (j+1)).map (·.bound)):=by rw[R,I,G,O,M,X.a,b,map_take h6,<-bL,<-dn];exact cD (k:=[x.types[i].params[j].bound])
   have b2:A.gr (A.add (A.len r2) (A.len (A.lit [[.int (A.asInt (A.cell (A.cell c1 (bj i) 1) (bj j) 2)),.str (A.bG (A.cell (A.cell c1 (bj i) 1) (bj j) 3)),.str (A.bG (A.cell (A.cell c1 (bj i) 1) (bj j) 4)),(A.cell (A.cell c1 (bj i) 1) (bj j) 5),(A.cell (A.cell c1 (bj i) 1) (bj j) 6)]]))) 4294967296:=by rw[X.a,b,dp,lC];exact⟨by rw[fx];omega,by rw[fx];simp only[bI,bZ];omega⟩
   refine p1 ?_;exact⟨(j+1,_),⟨yP,q2⟩,yP,[0,1],rfl,yc⟩
  ·have h6:j=a:=by have h1:A.lt (bj j) (A.len (A.cell c1 (bj i) 1))=false:=h1;rw[n]at h1;obtain rfl:=X.a;simp only[SD]at h1;omega
   rw[h6,l,bz]at b;have q3:r2=bt ca ((x.types.take (i+1)).flatMap eL):=by rw[b,w];unfold eL;simp only[bL]
   refine p1 ?_;exact⟨(i+1,r2),⟨yP,q3⟩,yP,[0,1],rfl,yc⟩
 have h5:i=o:=gY X.a e h1;rw[h5,q,bz]at hr;clear h1 Q;cbv;refine lP X (λy=>y.1<=m/\y.2=bt ca (x.types.flatMap eL++(x.values.take y.1).flatMap fU)) (λy=>m-y.1) (0,r) ⟨bw _,yU hr⟩ [0,1] (λ(y:Nat×D)=>⟨[(6,.int .i64 y.1),(3,.row 29 1),(1,.box 0 0)],[.box [.str F,.lst 136 c1,.lst 91 c2,.lst 210 B,.lst 213 E],.row 29 y.2 true]⟩) ?_;rintro⟨i,r⟩ ⟨Q,hr⟩;simp only at Q hr;cbv;constructor<;>intro h1
 ·have h5:i<x.values.length:=lY X.a g h1;obtain⟨k0,p,⟨m0,m1,U,V,m4⟩⟩:=pg X.a u h5;have z:=iX X.a u h5;have ac:=jX X.a h5;have ae:=kY (f:=fU) h5;have w:=fu (f:=fU) h5;have W:(fU x.values[i]).length=1+x.values[i].params.length:=by unfold fU;simp;omega
  have v:(x.types.flatMap eL++(x.values.take i).flatMap fU).length+1+x.values[i].params.length<=4294967290:=by first|omega|(simp only[bp];omega)
  have q1:A.app r (A.lit [[.int (A.asInt (A.cell c2 (bj i) 2)),.str (A.bG (A.cell c2 (bj i) 3)),.str (A.bG (A.cell c2 (bj i) 4)),A.cell c2 (bj i) 5,A.cell c2 (bj i) 6]])=bt ca (x.types.flatMap eL++(x.values.take i).flatMap fU++[x.values[i].ty]++(x.values[i].params.take 0).map (·.bound)):=by rw[m0,m1,U,V,m4,<-dn,X.a,hr];refine(cD (f:=ca) (k:=[x.values[i].ty])).trans ?_;simp
  have b1:A.gr (A.add (A.len r) (A.len (A.lit [[.int (A.asInt (A.cell c2 (bj i) 2)),.str (A.bG (A.cell c2 (bj i) 3)),.str (A.bG (A.cell c2 (bj i) 4)),A.cell c2 (bj i) 5,A.cell c2 (bj i) 6]]))) 4294967296:=by rw[X.a,hr,dp,lC];exact⟨by rw[fx];omega,by rw[fx];simp only[bI,bZ];omega⟩
  refine p1 ?_;obtain⟨N,d⟩:∃N,N=A.cell c2 (bj i) 1:=⟨_,rfl⟩;rw[<- d]at p;obtain⟨a,l,c⟩:=lenOf p;refine lP X (λy=>y.1<=a/\y.2=bt ca (x.types.flatMap eL++(x.values.take i).flatMap fU++[x.values[i].ty]++(x.values[i].params.take y.1).map (·.bound))) (λy=>a-y.1) (0,_) ⟨bw _,q1⟩ [0,1] (λ(y:Nat×D)=>⟨[(7,.int .i64 y.1),(6,.int .i64 i),(3,.row 29 1),(1,.box 0 0)],[.box [.str F,.lst 136 c1,.lst 91 c2,.lst 210 B,.lst 213 E],.row 29 y.2 true]⟩) ?_;rintro⟨j,r2⟩ ⟨hj,b⟩;simp only at hj b;have n:A.len (A.cell c2 (bj i) 1)=bj a:=by rw[<- d,X.a];exact c
  cbv;refine⟨z,?_⟩;constructor<;>intro h1
  ·have h6:j<x.values[i].params.length:=by have h1:A.lt (bj j) (A.len (A.cell c2 (bj i) 1))=true:=h1;rw[n]at h1;obtain rfl:=X.a;simp only[SD]at h1;omega
   obtain⟨w0,w1,R,I,G,O,M⟩:=im X.a p h6;rw[d]at R I G O M;have H:A.idx (bj j) (A.len (A.cell c2 (bj i) 1)):=by rw[<- d,X.a,p];exact cY h6
   have T:=jX X.a h6;have P:(x.types.flatMap eL++(x.values.take i).flatMap fU++[x.values[i].ty]++(x.values[i].params.take j).map (·.bound)).length<=4294967290:=by simp only[bp,bA,cF,bI,bZ]at v ⊢;omega
   have q2:A.app r2 (A.lit [[.int (A.asInt (A.cell (A.cell c2 (bj i) 1) (bj j) 2)),.str (A.bG (A.cell (A.cell c2 (bj i) 1) (bj j) 3)),.str (A.bG (A.cell (A.cell c2 (bj i) 1) (bj j) 4)),(A.cell (A.cell c2 (bj i) 1) (bj j) 5),(A.cell (A.cell c2 (bj i) 1) (bj j) 6)]])=bt ca (x.types.flatMap eL++(x.values.take i).flatMap fU++[x.values[i].ty]++(x.values[i].params.take (j+1)).map (·.bound)):=by rw[R,I,G,O,M,X.a,b,map_take h6,<-bL,<-dn];exact cD (k:=[x.values[i].params[j].bound])
   have b2:A.gr (A.add (A.len r2) (A.len (A.lit [[.int (A.asInt (A.cell (A.cell c2 (bj i) 1) (bj j) 2)),.str (A.bG (A.cell (A.cell c2 (bj i) 1) (bj j) 3)),.str (A.bG (A.cell (A.cell c2 (bj i) 1) (bj j) 4)),(A.cell (A.cell c2 (bj i) 1) (bj j) 5),(A.cell (A.cell c2 (bj i) 1) (bj j) 6)]]))) 4294967296:=by rw[X.a,b,dp,lC];exact⟨by rw[fx];omega,by rw[fx];simp only[bI,bZ];omega⟩
   refine p1 ?_;exact⟨(j+1,_),⟨yP,q2⟩,yP,[0,1],rfl,yc⟩
  ·have h6:j=a:=by have h1:A.lt (bj j) (A.len (A.cell c2 (bj i) 1))=false:=h1;rw[n]at h1;obtain rfl:=X.a;simp only[SD]at h1;omega
   rw[h6,l,bz]at b;have q3:r2=bt ca (x.types.flatMap eL++(x.values.take (i+1)).flatMap fU):=by rw[b,w];unfold fU;simp only[bL]
   refine p1 ?_;exact⟨(i+1,r2),⟨yP,q3⟩,yP,[0,1],rfl,yc⟩
 have h5:i=m:=gY X.a g h1;rw[h5,s,bz]at hr;clear h1 Q;cbv;exact h r hr
end Go.VC.cc
namespace Go.VC
def qx{α β:Type}{f:α->List β}{g:β->Nat}{w:α->Nat}:∀{l:List α},(∀x∈l,((f x).map g).sum<=w x)->((l.flatMap f).map g).sum<=(l.map w).sum
 |[],_=>yS
 |x::l,h=>by have a:=h x yS;have b:=qx (l:=l) (f:=f) (g:=g) (w:=w) λy c=>h y (by simp[c]);simp only[eJ,bS,dO,bF,bV];omega
def rS(l:List Pm):((l.map (·.bound)).map Ty.size).sum<=(l.map Pm.wt).sum:=by
 induction l with
 |nil=>simp
 |cons p l a=>simp only[bF,bV,Pm.wt]at a ⊢;omega
def Gm(x:IF):((cW x).map Ty.size).sum+x.aliases.length<=x.wt:=by
 have a:=qx (l:=x.types) (f:=eL) (g:=Ty.size) (w:=TE.wt) λy _=>by have:=rS y.params;simp only[eL,bS,dO,bF,ie,bV,oa,TE.wt];omega
 have b:=qx (l:=x.values) (f:=fU) (g:=Ty.size) (w:=VE.wt) λy _=>by have:=rS y.params;simp only[fU,bS,dO,bF,ie,bV,oa,VE.wt];omega
 simp only[cW,bS,dO,IF.wt];omega
def RG(t:Ty):1<=t.size:=by rw[size_eq];omega
def IZ:∀l:List Ty,l.length<=(l.map Ty.size).sum
 |[]=>yS
 |t::l=>by have a:=RG t;have b:=IZ l;simp only[bI,bF,bV];omega
def xG(x:IF):(cW x).length<=x.wt:=by have a:=Gm x;have b:=IZ (cW x);omega
def Jy{x:IF}(dJ:x.ok){u:Ty}(h:u∈cW x):Ty.le 4294967295 u:=by
 unfold cW at h;rcases bE.1 h with h|h
 ·obtain⟨e,he,hu⟩:=cb.1 h;have hk:=dJ.t e he;unfold eL at hu;simp only[dL,jd,bx,bH]at hu;rcases hu with rfl|rfl|⟨p,a,rfl⟩
  ·exact hk.lo
  ·exact hk.up
  ·exact hk.p p a
 ·obtain⟨e,he,hu⟩:=cb.1 h;have hk:=dJ.v e he;unfold fU at hu;simp only[dL,jd,bx,bH]at hu;rcases hu with rfl|⟨p,a,rfl⟩
  ·exact hk.ty
  ·exact hk.p p a
end Go.VC
namespace Go.VC.cc
open Go Go.VC Go.Proofs
end Go.VC.cc
namespace Go.VC
section
variable {α:Type}{i:Nat}
def sX(x:IF):Nat:=((cW x).map Ty.size).sum+x.aliases.length+x.deprecated.length
def xO(env:List IF):Nat:=env.length+(env.map sX).sum
def Km(x:IF):sX x+1<=x.wt:=by
 have a:=qx (l:=x.types) (f:=eL) (g:=Ty.size) (w:=TE.wt) λy _=>by have:=rS y.params;simp only[eL,bS,dO,bF,ie,bV,oa,TE.wt];omega
 have b:=qx (l:=x.values) (f:=fU) (g:=Ty.size) (w:=VE.wt) λy _=>by have:=rS y.params;simp only[fU,bS,dO,bF,ie,bV,oa,VE.wt];omega
 simp only[sX,cW,bS,dO,IF.wt];omega
def LH(env:List IF):xO env<=(env.map IF.wt).sum:=by
 unfold xO;induction env with
 |nil=>simp
 |cons x l a=>have:=Km x;simp only[bI,bF,bV];omega
def xK{f:α->Nat}{l:List α}(h:i<l.length):((l.take (i+1)).map f).sum=((l.take i).map f).sum+f l[i]:=by rw[cj h,bS,dO];simp
def DV{f:α->Nat}{l:List α}(h:i<l.length):((l.take i).map f).sum+f l[i]<=(l.map f).sum:=by rw[<- xK h];exact pS
end
end Go.VC
namespace Go.VC.cc
open Go Go.VC Go.Proofs
section
variable {K:PV->List Ob->Prop}
def aa3{t:Ty}(a:Ty.le 4294967295 t)(hs:t.size<=4294967295){d:Int}{c1 c2:S}{b c:D}(e:cr t d c1 c2 b c)(h:∀r:Int,r=t.size->K (.int .i64 r) []):
 FT 25 [] [dQ d c1 c2 b c] K:=F25 t a hs e h
def F26{env:List IF}{d:D}(x:d=bt dy env)(hl:ey env)(hw:(env.map IF.wt).sum<=4294967280)
 (h:∀r:Int,r=bj (xO env)->K (.int .i64 r) []):FT 26 [] [.lst 97 d] K:=by
 have V:=LH env;have hn:=hl.1;obtain⟨g,t⟩:∃g:Nat->Nat,g=λi=>env.length+((env.take i).map sX).sum:=⟨_,rfl⟩;have g0:g 0=env.length:=by rw[t];simp
 have gs:∀i (h:i<env.length),g (i+1)=g i+sX env[i]:=λi h=>by rw[t];simp only;rw[xK h];omega
 have gl:∀i,g i<=xO env:=λi=>by rw[t];unfold xO;have:=pS (f:=sX) (l:=env) (i:=i);simp only;omega
 have gn:g env.length=xO env:=by rw[t];unfold xO;simp only;rw[bz]
 clear t;refine en g26 Tryz.func26 λA C L X=>?_;obtain⟨q,n,a⟩:=lenOf x;cbv;refine lu X (λy=>y.1<=q/\y.2=bj (g y.1)) (λy=>q-y.1) (0,A.len d) ⟨bw _,by rw[X.a,a,g0,n]⟩ (λ(y:Nat×Int)=>[(4,.int .i64 y.1),(3,.int .i64 y.2)]) ?_;rintro⟨i,z⟩ ⟨hi,hz⟩;simp only at hi hz;cbv;constructor<;>intro h1
 ·have h5:i<env.length:=lY X.a a h1;have B:=ot X.a x h5;have N:=iX X.a x h5;have ad:=jX X.a h5;have o:=br h5;have dJ:=hl.2 _ o;have mi:env[i].wt<=(env.map IF.wt).sum:=ql o;have F:=xG env[i];have G:=gs i h5;have W:=gl (i+1);clear h1;refine p1 ?_;refine X.call (F41 B dJ yO λdt c=>?_);obtain⟨ts,m⟩:∃ts,ts=cW env[i]:=⟨_,rfl⟩;have c:dt=bt ca ts:=by rw[m];exact c
  have M:∀u∈ts,Ty.le 4294967295 u:=λu hu=>Jy dJ (by rw[<- m];exact hu);have fW:sX env[i]=(ts.map Ty.size).sum+env[i].aliases.length+env[i].deprecated.length:=by rw[m];rfl
  rw[<- m]at F;obtain⟨e,p,b⟩:=lenOf c;cbv;refine lu X (λy=>y.1<=e/\y.2=bj (g i+((ts.take y.1).map Ty.size).sum)) (λy=>e-y.1) (0,z) ⟨bw _,yU hz⟩ (λ(y:Nat×Int)=>[(6,.int .i64 y.1),(3,.int .i64 y.2)]) ?_;rintro⟨j,s⟩ ⟨P,k⟩;simp only at P k;cbv;constructor<;>intro h1
  ·have h6:j<ts.length:=lY X.a b h1;have k2:=iS X.a c h6;have N:=iX X.a c h6;have T:=jX X.a h6;have E:=br h6;have I:=xK (f:=Ty.size) h6;have Q:=DV (f:=Ty.size) h6;clear h1;refine p1 ?_;refine X.call (aa3 (M _ E) yO k2 λv R=>?_);have H:v=bj ts[j].size:=R;clear R;have w:A.add s v=bj (g i+((ts.take (j+1)).map Ty.size).sum):=by rw[X.a,fx,I,k,H];simp only[bD];omega
   have O:A.inr .i64 (A.add s v):=by rw[w,X.a,fw];simp only[bD];omega
   refine p1 ?_;exact⟨(j+1,_),⟨yP,w⟩,yP,yc⟩
  have h6:j=e:=gY X.a b h1;rw[h6,p,bz]at k;clear h1 P h6;have la:A.len (A.cell d (bj i) 3)=bj env[i].aliases.length:=by rw[B.2.2.2.1,X.a,dp];rfl
  have ld:A.len (A.cell d (bj i) 4)=bj env[i].deprecated.length:=by rw[B.2.2.2.2,X.a,dp];rfl
  have w:A.add s (A.len (A.cell d (bj i) 3))=bj (g i+(ts.map Ty.size).sum+env[i].aliases.length):=by rw[la,X.a,fx,k];simp only[bD];omega
  have S:A.add (A.add s (A.len (A.cell d (bj i) 3))) (A.len (A.cell d (bj i) 4))=bj (g (i+1)):=by rw[w,ld,X.a,fx,G,fW];simp only[bD];omega
  have U:A.inr .i64 (A.add s (A.len (A.cell d (bj i) 3))):=by rw[w,X.a,fw];simp only[bD];omega
  have aa:A.inr .i64 (A.add (A.add s (A.len (A.cell d (bj i) 3))) (A.len (A.cell d (bj i) 4))):=by rw[S,X.a,fw];simp only[bD];omega
  refine p1 ?_;exact⟨(i+1,_),⟨yP,S⟩,yP,yc⟩
 have h5:i=q:=gY X.a a h1;rw[h5,n,gn]at hz;cbv;exact h z hz
end
end Go.VC.cc
namespace Go.VC
def wA{a b:S×Int}(h:(iy a b).2=0):a.2=0/\b.2=0:=by
 unfold iy at h;by_cases e:a.2=0
 ·rw[if_neg (yU e)]at h;exact⟨e,h⟩
 ·rw[if_pos e]at h;exact absurd h e
def sq{a b:S×Int}(h:a.2=0):iy a b=b:=by unfold iy;rw[if_neg (yU h)]
def De{α:Type}{e:α->Int}{n:α->S}:∀{l:List α},(ow e n l).2=0->∀x∈l,e x=0
 |[],_,x,a=>yE a
 |y::l,h,x,a=>by
  rw[ow]at h;by_cases e0:e y=0
  ·rw[if_neg (yU e0)]at h;rcases bx.1 a with rfl|a
   ·exact e0
   ·exact De h x a
  ·rw[if_pos e0]at h;exact absurd h e0
structure HQ (env:List IF) (i:IF):Prop where
 head:Fi i=0
 names:(yM i).2=0
 diff:(BQ i).2=0
 t:∀x∈i.types,xI env i x=0
 v:∀x∈i.values,wU env x=0
 a:∀x∈i.aliases,pJ env x=0
 notes:(yJ i).2=0
def MT{env:List IF}{i:IF}(h:(qM env i).2=0):HQ env i/\qM env i=([],0):=by unfold qM at h ⊢;obtain⟨h0,h⟩:=wA h;obtain⟨h1,h⟩:=wA h;obtain⟨J,h⟩:=wA h;obtain⟨h3,h⟩:=wA h;obtain⟨h4,h⟩:=wA h;refine⟨?_,by rw[sq h0,sq h1,sq J,sq h3,sq h4]⟩;have h5:=h3;unfold nu at h5;obtain⟨e1,h5⟩:=wA h5;obtain⟨e2,e3⟩:=wA h5;exact⟨h0,h1,J,De e1,De e2,De e3,h4⟩
def HQ.iface{env:List IF}{i:IF}(h:HQ env i):qM env i=([],0):=by
 unfold qM;rw[sq h.head,sq h.names,sq h.diff];have h3:nu env i=([],0):=by unfold nu;rw[Df h.t,Df h.v,Df h.a];rfl
 rw[h3,sq rfl,sq h.notes]
def Hy{env:List IF}:∀{l:List IF}{p:Option S},(uw env p l).2=0->(∀x∈l,(ku env x.path).2=0)/\(∀q,p=some q->∀x∈l,slt q x.path=true)/\l.Pairwise (λa b=>slt a.path b.path=true)
 |[],p,_=>⟨yS,yS,yS⟩
 |x::l,none,h=>by
  rw[uw]at h;by_cases e:(ku env x.path).2=0
  ·rw[if_neg (yU e)]at h;obtain⟨a,b,c⟩:=Hy h;refine⟨λy d=>?_,yS,dG.2 ⟨b _ rfl,c⟩⟩;rcases bx.1 d with rfl|d
   ·exact e
   ·exact a y d
  ·rw[if_pos e]at h;exact absurd h e
 |x::l,some p,h=>by
  rw[uw]at h;by_cases e1:x.path=p
  ·rw[if_pos e1]at h;cases h
  ·rw[if_neg e1]at h;by_cases e2:slt x.path p=true
   ·rw[if_pos e2]at h;cases h
   ·rw[if_neg e2]at h;by_cases e:(ku env x.path).2=0
    ·rw[if_neg (yU e)]at h;obtain⟨a,b,c⟩:=Hy h
     have f:slt p x.path=true:=by
      cases i:slt p x.path with
      |true=>rfl
      |false=>exact absurd (nP (yU e2) i) e1
     refine⟨λy d=>?_,λq g y d=>?_,dG.2 ⟨b _ rfl,c⟩⟩
     ·rcases bx.1 d with rfl|d
      ·exact e
      ·exact a y d
     ·cases g;rcases bx.1 d with rfl|d
      ·exact f
      ·exact mC f (b _ rfl y d)
    ·rw[if_pos e]at h;exact absurd h e
def Hn{env:List IF}(h:env.Pairwise (λa b=>slt a.path b.path=true)){x:IF}(c:x∈env):fF env x.path=some x:=by
 unfold fF;induction env with
 |nil=>simp at c
 |cons y l d=>
  rw[dG]at h;rw[cI];rcases bx.1 c with rfl|c
  ·simp
  ·have:(y.path==x.path)=false:=by rw[beq_eq_false_iff_ne];intro e;have:=h.1 x c;rw[e,gk]at this;cases this
   rw[this];exact d h.2 c
structure ml (env:List IF):Prop where
 X9:env.Pairwise (λa b=>slt a.path b.path=true)
 ok:∀x∈env,HQ env x
def zH{env:List IF}(h:(qf env).2=0):ml env:=by
 unfold qf at h;by_cases e:64<env.length
 ·rw[if_pos e]at h;cases h
 ·rw[if_neg e]at h;obtain⟨h1,J⟩:=wA h;obtain⟨a,b,c⟩:=Hy h1;refine⟨c,λx d=>?_⟩;have:=a x d;unfold ku at this;rw[Hn c d]at this;exact(MT this).1
def qq{env:List IF}{i:IF}{x:TE}(h:xI env i x=0):sF env (x.params.map Pm.name) x.lower=0/\sF env (x.params.map Pm.name) x.upper=0/\j7 env x.lower [] x.params=true/\j7 env x.upper [] x.params=true/\vc i x=true/\jW mM x.params=0:=by
 unfold xI at h;by_cases e0:jW mM x.params=0
 ·rw[if_neg (yU e0)]at h;by_cases e1:gp [sF env (x.params.map Pm.name) x.lower,sF env (x.params.map Pm.name) x.upper]=0
  ·rw[if_neg (yU e1)]at h;rw[iE,iE]at e1;by_cases e2:sF env (x.params.map Pm.name) x.lower=0
   ·rw[if_pos e2]at e1;by_cases e3:sF env (x.params.map Pm.name) x.upper=0
    ·by_cases e4:(!j7 env x.lower [] x.params|| !j7 env x.upper [] x.params)=true
     ·rw[if_pos e4]at h;cases h
     ·rw[if_neg e4]at h;by_cases e5:vc i x=false
      ·rw[if_pos e5]at h;cases h
      ·simp at e4;exact⟨e2,e3,e4.1,e4.2,yU e5,e0⟩
    ·rw[if_neg e3]at e1;exact absurd e1 e3
   ·rw[if_neg e2]at e1;exact absurd e1 e2
  ·rw[if_pos e1]at h;exact absurd h e1
 ·rw[if_pos e0]at h;exact absurd h e0
end Go.VC
namespace Go.VC.cc
open Go Go.VC Go.Proofs
end Go.VC.cc
namespace Go.VC
end Go.VC
namespace Go.VC.cc
open Go Go.VC Go.Proofs
end Go.VC.cc
namespace Go.VC
end Go.VC
namespace Go.VC.cc
open Go Go.VC Go.Proofs
end Go.VC.cc
namespace Go.VC
section
variable {env more:List IF}{vs:List S}{t:Ty}{x m n:S}{i:IF}
def nn:∀{l:List Int},gp l=0↔∀e∈l,e=0
 |[]=>by simp[gp]
 |e::l=>by
  rw[iE];by_cases h:e=0
  ·rw[if_pos h,nn];simp[h]
  ·rw[if_neg h];simp[h]
def AF(env more:List IF):Prop:=∀p i,fF env p=some i->fF more p=some i
def TH:End->Bool
 | .th _ _ _=>true
 | .val _ _ _=>true
 |_=>false
def vP(h:AF env more):∀(k:Nat)(m n:S),TH (fY env k m n)=true->fY more k m n=fY env k m n
 |0,m,n,he=>by rw[fY]at he;cases he
 |k+1,m,n,he=>by
  have hl:iZ more m n=iZ env m n:=by
   cases hf:fF env m with
   |none=>
    have:iZ env m n= .none:=by unfold iZ;rw[hf]
    rw[fY,this]at he;cases he
   |some i=>unfold iZ;rw[hf,h _ _ hf]
  rw[fY,fY,hl];rw[fY]at he;cases a:iZ env m n with
  |none=>rfl
  |Bh=>rfl
  |th x=>rfl
  |val x=>rfl
  |TY x=>rw[a]at he;exact vP h k _ _ he
def xH(h:AF env more)(he:(cp env m n).2.2=0):cp more m n=cp env m n:=by
 have a:TH (fY env 65 m n)=true:=by unfold cp at he;cases b:fY env 65 m n<;>rw[b]at he<;>first|rfl|cases he
 unfold cp;rw[vP h _ _ _ a]
def DM(h:AF env more)(he:(dP env m n).2.2=0):dP more m n=dP env m n:=by
 have a:TH (fY env 65 m n)=true:=by unfold dP at he;cases b:fY env 65 m n<;>rw[b]at he<;>first|rfl|cases he
 unfold dP;rw[vP h _ _ _ a]
def N3(env more:List IF)(t:Ty):Prop:=∀u∈t.all,u.k=10->cp more u.m u.n=cp env u.m u.n
def ng(h:lL env vs t=0):∀u∈t.all,ji env vs u=0:=by intro u hu;exact nn.1 h _ (bH.2 ⟨u,hu,rfl⟩)
def J9{u:Ty}(h:ji env vs u=0)(hk:u.k=10):(cp env u.m u.n).2.2=0/\(cp env u.m u.n).1.params.length=u.ar.length:=by
 unfold ji at h;rw[if_neg (by rw[hk];decide),if_pos hk]at h;by_cases e:(cp env u.m u.n).2.2=0
 ·rw[if_neg (yU e)]at h;by_cases e2:(cp env u.m u.n).1.params.length=u.ar.length
  ·exact⟨e,e2⟩
  ·rw[if_pos e2]at h;cases h
 ·rw[if_pos e]at h;exact absurd h e
def wb:sF env vs t=0↔K0 t=0/\lL env vs t=0:=by
 unfold sF;by_cases e:K0 t=0
 ·rw[if_neg (yU e)];simp[e]
 ·rw[if_pos e];simp[e]
def B9(hs:AF env more)(h:sF env vs t=0):N3 env more t:=by intro u hu hk;exact xH hs (J9 (ng (wb.1 h).2 u hu) hk).1
def tw(hs:AF env more)(h:sF env vs t=0):sF more vs t=0:=by
 have hr:=B9 hs h;obtain⟨h1,J⟩:=wb.1 h;refine wb.2 ⟨h1,?_⟩;refine nn.2 λe he=>?_;obtain⟨u,hu,rfl⟩:=bH.1 he;have h3:=ng J u hu;unfold ji at h3 ⊢;by_cases hk:u.k=10
 ·rw[hr u hu hk];exact h3
 ·by_cases a:u.k=9
  ·rw[if_pos a]at h3 ⊢;exact h3
  ·rw[if_neg a,if_neg hk]
def yz:∀{l:List Ty},(∀t∈l,qa more x t=qa env x t)->mY more x l=mY env x l
 |[],_=>rfl
 |t::l,h=>by rw[mY,mY,h t yS,yz λu hu=>h u (by simp[hu])]
def yG{ps:List Pm}:∀{i:Nat}{l:List Ty},(∀t∈l,qa more x t=qa env x t)->mZ more x ps i l=mZ env x ps i l
 |_,[],_=>rfl
 |i,t::l,h=>by rw[mZ,mZ,h t yS,yG λu hu=>h u (by simp[hu])]
def yF{sw:Bool}:∀{l:List Fe},(∀f∈l,qa more x f.t=qa env x f.t)->og more x sw l=og env x sw l
 |[],_=>rfl
 | .mk s t b::l,h=>by have h1:qa more x t=qa env x t:=h (.mk s t b) yS;rw[og,og,h1,yF λu hu=>h u (by simp[hu])]
def J2:∀(t:Ty),N3 env more t->qa more x t=qa env x t:=by
 refine Ty.fV λt d=>?_;intro hr;have c:∀u∈t.eA,qa more x u=qa env x u:=λu hu=>d u hu λv e=>hr v (jr hu e);cases t with
 |mk k m n ar fl=>
  rw[qa,qa];by_cases b:k=9
  ·rw[if_pos b,if_pos b]
  ·rw[if_neg b,if_neg b];have ha:∀u∈ar,qa more x u=qa env x u:=λu hu=>c u (cy _ hu);have hf:∀f∈fl,qa more x f.t=qa env x f.t:=λf hf=>c f.t (cP _ (bH.2 ⟨f,hf,rfl⟩));by_cases a:k=10
   ·rw[if_pos a,if_pos a,show cp more m n=cp env m n from hr _ (fK _) a];exact yG ha
   ·rw[if_neg a,if_neg a,yz ha,yF hf]
def nR(h:N3 env more t):∀{ps:List Pm}{seen:List S},j7 more t seen ps=j7 env t seen ps
 |[],_=>rfl
 |p::l,seen=>by rw[j7,j7,J2 t h,nR h,nR h]
def AO(hs:AF env more):∀{k:Nat}{l:List Pm},uY env vs k l=0->uY more vs k l=0
 |_,[],_=>rfl
 |k,p::l,h=>by
  rw[uY]at h ⊢;by_cases e:sF env (vs.take k) p.bound=0
  ·rw[if_neg (yU e)]at h;rw[if_neg (by simpa using tw hs e)];exact AO hs h
  ·rw[if_pos e]at h;exact absurd h e
def JA(hs:AF env more){x:TE}(h:xI env i x=0):xI more i x=0:=by obtain⟨h1,J,h3,h4,h5,h6⟩:=qq h;unfold xI;rw[if_neg (yU h6)];rw[show gp [sF more (x.params.map Pm.name) x.lower,sF more (x.params.map Pm.name) x.upper]=0 by rw[tw hs h1,tw hs J];rfl,if_neg yD];rw[nR (B9 hs h1),nR (B9 hs J),h3,h4,h5];rfl
def Jv(hs:AF env more){x:VE}(h:wU env x=0):wU more x=0:=by
 unfold wU at h ⊢;by_cases e:jW sE x.params=0
 ·rw[if_neg (yU e)]at h ⊢;by_cases e2:uY env (x.params.map Pm.name) 0 x.params=0
  ·rw[if_neg (yU e2)]at h;rw[if_neg (by simpa using AO hs e2)];exact tw hs h
  ·rw[if_pos e2]at h;exact absurd h e2
 ·rw[if_pos e]at h;exact absurd h e
def FR(hs:AF env more){x:AE}(h:pJ env x=0):pJ more x=0:=by
 unfold pJ at h ⊢;split
 ·rename_i e;rw[if_pos e]at h;rw[xH hs h];exact h
 ·rename_i e;rw[if_neg e]at h;split
  ·rename_i e2;rw[if_pos e2]at h;rw[DM hs h];exact h
  ·rename_i e2;rw[if_neg e2]at h;cases h
def HQ.mono(hs:AF env more)(h:HQ env i):HQ more i:=⟨h.head,h.names,h.diff,λx a=>JA hs (h.t x a),λx a=>Jv hs (h.v x a),λx a=>FR hs (h.a x a),h.notes⟩
end
section
variable {ns:List S}{ts:List Ty}
def Im{t:Ty}(h:¬(t.k=9/\0<=gI ns t.n/\gI ns t.n<ts.length)):(t.sub ns ts).eA=t.eA.map (Ty.sub ns ts):=by
 rw[jg h]
 have:∀l:List Fe,(l.map (Fe.sub ns ts)).map Fe.t=(l.map Fe.t).map (Ty.sub ns ts):=by
  intro l;induction l with
  |nil=>rfl
  |cons f l a=>simp only[bF,a];cases f;rfl
 simp only[Ty.eA,Ty.ar,Ty.fl,bS,this]
def Cp{t:Ty}(h:t.k=9/\0<=gI ns t.n/\gI ns t.n<ts.length):t.sub ns ts∈ts:=by obtain⟨a,b,c⟩:=h;rw[Cn a (i:=(gI ns t.n).toNat) yO yO];exact br _
def tI{P Q:Ty->Prop}(c:∀u∈ts,∀v∈u.all,Q v)
 (b:∀v,P v->¬(v.k=9/\0<=gI ns v.n/\gI ns v.n<ts.length)->Q (v.sub ns ts)):∀t:Ty,(∀v∈t.all,P v)->∀v∈(t.sub ns ts).all,Q v:=by
 refine Ty.fV λt f=>?_;intro e v a;by_cases h:t.k=9/\0<=gI ns t.n/\gI ns t.n<ts.length
 ·exact c _ (Cp h) v a
 ·rw[all_eq,Im h]at a;rcases bx.1 a with rfl|a
  ·exact b t (e t (fK t)) h
  ·obtain⟨u,hu,a⟩:=cb.1 a;obtain⟨w,d,rfl⟩:=bH.1 hu;exact f w d (λx g=>e x (jr d g)) v a
def Ls{B:Nat}(h1:1<=B)(hB:∀u∈ts,u.size<=B):∀t:Ty,(t.sub ns ts).size<=t.size*B:=by
 refine Ty.fV λt d=>?_;have f:=size_eq t;by_cases h:t.k=9/\0<=gI ns t.n/\gI ns t.n<ts.length
 ·have:=hB _ (Cp h);have J:B<=t.size*B:=Nat.le_mul_of_pos_left B yO;omega
 ·have hs:∀l:List Ty,(∀u∈l,(u.sub ns ts).size<=u.size*B)->((l.map (Ty.sub ns ts)).map Ty.size).sum<=(l.map Ty.size).sum*B:=by
   intro l;induction l with
   |nil=>intro _;simp
   |cons u l c=>intro hl;have a:=hl u yS;have b:=c λv e=>hl v (by simp[e]);simp only[bF,bV,dz];omega
  have:=hs t.eA d;rw[size_eq (t.sub ns ts),Im h,f,dz];omega
def sub_le{n:Nat}(g:∀u∈ts,Ty.le n u):∀t:Ty,Ty.le n t->Ty.le n (t.sub ns ts):=by
 refine Ty.fV λt j=>?_;intro i;by_cases h:t.k=9/\0<=gI ns t.n/\gI ns t.n<ts.length
 ·exact g _ (Cp h)
 ·rw[jg h];cases i with
  |mk _ a b c d=>
   refine .mk _ (by simpa[Ty.ar]using a) (by simpa[Ty.fl]using b) (λu hu=>?_) (λf hf=>?_)
   ·obtain⟨w,e,rfl⟩:=bH.1 hu;exact j w (cy _ e) (c w e)
   ·obtain⟨w,e,rfl⟩:=bH.1 hf;have:=j w.t (cP _ (bH.2 ⟨w,e,rfl⟩)) (d w e);cases w;exact this
def tY{env:List IF}{vs:List S}{t:Ty}(h:∀u∈t.all,ji env vs u=0):lL env vs t=0:=nn.2 λe he=>by obtain⟨u,hu,rfl⟩:=bH.1 he;exact h u hu
def PI{s:S}(h:ns.contains s=true):0<=gI ns s/\gI ns s<ns.length:=by
 have h1:(ns.any λx=>s==x)=true:=by rw[<- uA];exact h
 rw[Fg]at h1;have h1:=of_decide_eq_true h1;refine⟨h1,?_⟩;unfold gI at h1 ⊢;rcases nj (λx=>x==s) ns with⟨e,_⟩|⟨i,a,e,_⟩
 ·omega
 ·rw[e];omega
def JD{env:List IF}{vs:List S}(hl:ns.length=ts.length)(c:∀u∈ts,lL env vs u=0){t:Ty}(h:lL env ns t=0):lL env vs (t.sub ns ts)=0:=by
 refine tY (tI (P:=λv=>ji env ns v=0) (λu hu=>ng (c u hu)) (λv a d=>?_) t (ng h));by_cases b:v.k=9
 ·exfalso;unfold ji at a;rw[if_pos b]at a;by_cases hc:ns.contains v.n=true
  ·have:=PI hc;exact d ⟨b,this.1,yO⟩
  ·rw[if_neg hc]at a;cases a
 ·rw[jg d];unfold ji at a;rw[if_neg b]at a
  have e:∀(k:Int)(m n:S)(ar:List Ty)(fl:List Fe),ji env vs (.mk k m n ar fl)=if k=9 then(if vs.contains n then 0 else 4)else
   if k=10 then(if(cp env m n).2.2≠0 then(cp env m n).2.2 else if(cp env m n).1.params.length≠ar.length then 11 else 0)else 0:=λ_ _ _ _ _=>rfl
  rw[e,if_neg b,bA];exact a
def OK(b:∀u∈ts,∀v∈u.all,v.me){t:Ty}(h:∀v∈t.all,v.me):∀v∈(t.sub ns ts).all,v.me:=by refine tI (P:=Ty.me) b (λv a d=>?_) t h;rw[jg d];refine⟨a.m,a.n,λx c=>?_⟩;obtain⟨f,hf,rfl⟩:=bH.1 c;have:=a.f f hf;cases f;exact this
structure aes (env:List IF) (vs:List S) (t:Ty):Prop where
 le:Ty.le 4294967295 t
 me:∀u∈t.all,u.me
 nodes:lL env vs t=0
 sz:t.size<=4294967295
def lg{env:List IF}{m n:S}(h:(cp env m n).2.2=0):∃i∈env,(cp env m n).1∈i.types:=by
 unfold cp at h ⊢;have a:=o3 (env:=env) 65 m n;cases b:fY env 65 m n with
 |th m' n' x=>obtain⟨i,h1,J⟩:=a.1 m' n' x b;exact⟨i,cE h1,cE J⟩
 |_=>rw[b]at h;cases h
end
structure Ty.rZ (u:Ty):Prop where
 a:u.k=5\/u.k=8->u.ar.length=1
 r:u.k=6\/u.k=7->u.ar.length=0/\∀f∈u.fl,f.b=false
 nd:(u.fl.map Fe.s).Nodup
 k:0<=u.k/\u.k<=10
def Ff:∀{l:List S},wZ l=0->l.Pairwise λa b=>slt a b=true
 |[],_=>.nil
 |[a],_=>yS
 |a::b::l,h=>by
  rw[wZ]at h;by_cases h1:a=b
  ·rw[if_pos h1]at h;cases h
  ·rw[if_neg h1]at h;by_cases J:slt b a=true
   ·rw[if_pos J]at h;cases h
   ·rw[if_neg J]at h;have e:=Ff h
    have c:slt a b=true:=by
     cases f:slt a b with
     |true=>rfl
     |false=>exact absurd (nP f (yU J)) h1
    refine dG.2 ⟨λx d=>?_,e⟩;rcases bx.1 d with rfl|d
    ·exact c
    ·exact mC c ((dG.1 e).1 x d)
def JF{l:List S}(h:l.Pairwise λa b=>slt a b=true):l.Nodup:=se (λ{a b} h e=>by subst e;rw[gk]at h;cases h) h
def Ii{u:Ty}(h:tD u=0):u.rZ:=by
 unfold tD at h;cases hs:dV u with
 |false=>rw[hs]at h;simp at h
 |true=>
  rw[hs,if_neg yD]at h;split at h
  ·cases h
  ·split at h
   ·cases h
   ·split at h
    ·cases h
    ·refine⟨λhk=>?_,λhk=>?_,JF (Ff h),?_⟩
     ·unfold dV at hs;split at hs
      ·cases hs
      ·rcases hk with hk|hk<;>(rw[hk]at hs;simp at hs;omega)
     ·unfold dV at hs;split at hs
      ·cases hs
      ·rename_i hb;have a:∀f∈u.fl,f.b=false:=by rcases hk with hk|hk<;>(rw[hk]at hb;simpa using hb)
       refine⟨?_,a⟩;rcases hk with hk|hk<;>(rw[hk]at hs;simp at hs;simp[hs])
     ·unfold dV at hs;repeat' split at hs
      all_goals first|(cases hs;done)|omega
def H5{env:List IF}{vs:List S}{t:Ty}(h:sF env vs t=0):∀u∈t.all,u.rZ:=by
 have h1:=(wb.1 h).1;unfold K0 at h1;split at h1
 ·cases h1
 ·intro u hu;exact Ii (nn.1 h1 _ (bH.2 ⟨u,hu,rfl⟩))
def K8:∀u∈Ty.zero.all,u.rZ:=by
 intro u hu;have:u=Ty.zero:=by simpa[Ty.zero,Ty.all,Ty.ra,Ty.rb]using hu
 subst this;exact⟨by simp[Ty.zero,Ty.k],by simp[Ty.zero,Ty.k],by simp[Ty.zero,Ty.fl],by simp[Ty.zero,Ty.k]⟩
def xA:∀u∈Ty.zero.all,u.me:=by
 intro u hu;have:u=Ty.zero:=by simpa[Ty.zero,Ty.all,Ty.ra,Ty.rb]using hu
 subst this;exact⟨by simp[Ty.zero,Ty.m],by simp[Ty.zero,Ty.n],by simp[Ty.zero,Ty.fl]⟩
def OJ{ns:List S}{ts:List Ty}(b:∀u∈ts,∀v∈u.all,v.rZ){t:Ty}(h:∀v∈t.all,v.rZ):∀v∈(t.sub ns ts).all,v.rZ:=by
 refine tI (P:=Ty.rZ) b (λv a d=>?_) t h;rw[jg d];have e1:((v.fl.map (Fe.sub ns ts)).map Fe.s)=v.fl.map Fe.s:=by rw[ep];refine eF λf _=>?_;cases f;rfl
 refine⟨λhk=>?_,λhk=>⟨?_,λf hf=>?_⟩,?_,a.k⟩
 ·have:=a.a hk;simpa[Ty.ar]using this
 ·have:=(a.r hk).1;simpa[Ty.ar]using this
 ·obtain⟨g,c,rfl⟩:=bH.1 hf;have:=(a.r hk).2 g c;cases g;exact this
 ·show ((v.fl.map (Fe.sub ns ts)).map Fe.s).Nodup;rw[e1];exact a.nd
structure Ct (t:Ty):Prop where
 le:Ty.le 4294967295 t
 me:∀u∈t.all,u.me
 rZ:∀u∈t.all,u.rZ
structure Dw (env:List IF) (ctx:List Pm) (C:List Ty):Prop where
 len:C.length<=140
 ct:∀t∈C,Ct t
 sz:∀t∈C,t.size<=200
 eA:∀t∈C,∀u∈t.eA,u∈C
 gr:∀t∈C,(cG env t).2.2=0->(cG env t).1∈C/\(cG env t).2.1∈C
 ctx:∀p∈ctx,p.bound∈C
def Ho{l:List Fe}{s:S}{f:Fe}(h:eg l s=some f):f∈l/\f.s=s:=by unfold eg at h;exact⟨cE h,by simpa using je h⟩
def rE{sw:Bool}{k:List Fe}:∀{l:List Fe}{r:List Jm},er sw k l=some r->∀j∈r,∃f∈l,∃g∈k,g.s=f.s/\j=if sw then(g.t,f.t)else(f.t,g.t)
 |[],r,h,j,e=>by rw[er]at h;cases h;simp at e
 |f::l,r,h,j,e=>by
  rw[er]at h;split at h
  ·cases h
  ·rename_i g o;split at h
   ·cases h
   ·cases i:er sw k l with
    |none=>rw[i]at h;cases h
    |some q=>
     rw[i]at h;simp only[cv,cw]at h;subst h;obtain⟨m,n⟩:=Ho o;rcases bx.1 e with rfl|e
     ·exact⟨f,yS,g,m,n,rfl⟩
     ·obtain⟨f',a,p,b,c,d⟩:=rE i j e;exact⟨f',by simp[a],p,b,c,d⟩
def FJ:∀{ps:List Pm}{xs ys:List Ty}{j:Jm},j∈nD ps xs ys->(j.1∈xs/\j.2∈ys)\/(j.1∈ys/\j.2∈xs)
 |[],xs,ys,j,h=>by simp[nD]at h
 |p::ps,[],ys,j,h=>by simp[nD]at h
 |p::ps,a::xs,[],j,h=>by simp[nD]at h
 |p::ps,a::xs,b::ys,j,h=>by
  rw[nD]at h;rcases bE.1 h with h|h
  ·rcases bE.1 h with h|h
   ·split at h
    ·simp at h;subst h;exact .inl ⟨yS,yS⟩
    ·simp at h
   ·split at h
    ·simp at h;subst h;exact .inr ⟨yS,yS⟩
    ·simp at h
  ·rcases FJ h with⟨h1,J⟩|⟨h1,J⟩
   ·exact .inl ⟨by simp[h1],by simp[J]⟩
   ·exact .inr ⟨by simp[h1],by simp[J]⟩
def MW{l:List Ty}(h:l.length=1):rN l∈l:=by
 match l,h with
 |[a],_=>simp[rN]
def kS{t u:Ty}(h:u∈t.ar):u∈t.eA:=cy _ h
def M5{t:Ty}{f:Fe}(h:f∈t.fl):f.t∈t.eA:=cP _ (bH.2 ⟨f,h,rfl⟩)
def Dw.closed{env:List IF}{ctx:List Pm}{C:List Ty}(h:Dw env ctx C):HT C (lK env ctx):=by
 intro s hs t d r l hl j c;have k:s.k=5\/s.k=8->rN s.ar∈C:=λhk=>h.eA s hs _ (kS (MW (((h.ct s hs).rZ s (fK s)).a hk)));have i:t.k=5\/t.k=8->rN t.ar∈C:=λhk=>h.eA t d _ (kS (MW (((h.ct t d).rZ t (fK t)).a hk)));have fs:∀f∈s.fl,f.t∈C:=λf hf=>h.eA s hs _ (M5 hf);have w:∀f∈t.fl,f.t∈C:=λf hf=>h.eA t d _ (M5 hf);unfold lK at hl;by_cases h1:r=1
 ·rw[if_pos h1,ym]at hl;split at hl
  ·cases hl;simp at c
  ·cases hl
 rw[if_neg h1]at hl;by_cases J:r=2
 ·rw[if_pos J,j8]at hl;by_cases hk:s.k≠t.k
  ·rw[if_pos hk]at hl;cases hl
  rw[if_neg hk]at hl;have hk:s.k=t.k:=yU hk;by_cases n:s.k=5
  ·rw[if_pos n]at hl;cases hl;simp at c;subst c;exact⟨k (.inl n),i (.inl (hk▸n))⟩
  rw[if_neg n]at hl;by_cases x:s.k=6
  ·rw[if_pos x]at hl;obtain⟨f,hf,g,m,_,rfl⟩:=rE hl j c;exact⟨fs g m,w f hf⟩
  rw[if_neg x]at hl;by_cases y:s.k=7
  ·rw[if_pos y]at hl;obtain⟨f,hf,g,m,_,rfl⟩:=rE hl j c;exact⟨fs f hf,w g m⟩
  rw[if_neg y]at hl;by_cases o:s.k=8
  ·rw[if_pos o]at hl;split at hl
   ·cases v:er false s.fl t.fl with
    |none=>rw[v]at hl;cases hl
    |some q=>
     rw[v]at hl;simp only[cv,cw]at hl;subst hl;rcases bE.1 c with c|c
     ·obtain⟨f,hf,g,m,_,rfl⟩:=rE v j c;exact⟨w f hf,fs g m⟩
     ·simp at c;subst c;exact⟨k (.inr o),i (.inr (hk▸o))⟩
   ·cases hl
  ·rw[if_neg o]at hl;cases hl
 rw[if_neg J]at hl;by_cases h3:r=3
 ·rw[if_pos h3,kJ]at hl;split at hl
  ·cases hl
  ·split at hl
   ·cases hl
   ·cases hl;rcases FJ c with⟨a,b⟩|⟨a,b⟩
    ·exact⟨h.eA s hs _ (kS a),h.eA t d _ (kS b)⟩
    ·exact⟨h.eA t d _ (kS a),h.eA s hs _ (kS b)⟩
 rw[if_neg h3]at hl;by_cases h4:r=4
 ·rw[if_pos h4,tS]at hl;cases hb:jG env ctx s with
  |none=>rw[hb]at hl;cases hl
  |some u=>
   rw[hb]at hl;cases hl;simp at c;subst c;refine⟨?_,d⟩;unfold jG at hb;split at hb
   ·split at hb
    ·rename_i e;cases hb;exact(h.gr s hs e).2
    ·cases hb
   ·split at hb
    ·cases hf:ctx.find? λp=>p.name==s.n with
     |none=>rw[hf]at hb;cases hb
     |some p=>rw[hf]at hb;cases hb;exact h.ctx p (cE hf)
    ·cases hb
 ·rw[if_neg h4,yl]at hl;split at hl
  ·rename_i e;cases hl;simp at c;subst c;exact⟨hs,(h.gr t d e).1⟩
  ·cases hl
structure FY (env:List IF) (l C:List Ty):Prop where
 len:C.length<=120
 sz:∀t∈C,t.size<=200
 init:∀t∈l,t∈C
 eA:∀t∈C,∀u∈t.eA,u∈C
 gr:∀t∈C,(cG env t).2.2=0->(cG env t).1∈C/\(cG env t).2.1∈C
def Ct.part{t u:Ty}(h:Ct t)(hu:u∈t.eA):Ct u:=⟨iW h.le u hu,λv a=>h.me v (jr hu a),λv a=>h.rZ v (jr hu a)⟩
def Ct.sub{ns:List S}{ts:List Ty}{y:Ty}(a:∀u∈ts,Ct u)(h:Ct y):Ct (y.sub ns ts):=⟨sub_le (λu hu=>(a u hu).le) y h.le,OK (λu hu=>(a u hu).me) h.me,OJ (λu hu=>(a u hu).rZ) h.rZ⟩
def Ct.zero:Ct Ty.zero:=⟨lb,xA,K8⟩
def Ct.ty{env:List IF}(d:ml env)(ec:∀i∈env,i.fit){i:IF}(b:i∈env){x:TE}(c:x∈i.types):Ct x.lower/\Ct x.upper:=by have a:=(ec i b).t x c;obtain⟨e,f,_⟩:=qq ((d.ok i b).t x c);exact⟨⟨a.lo.le,a.lo.me,H5 e⟩,⟨a.up.le,a.up.me,H5 f⟩⟩
def Ct.gr{env:List IF}(d:ml env)(ec:∀i∈env,i.fit){t:Ty}(e:Ct t):Ct (cG env t).1/\Ct (cG env t).2.1:=by
 unfold cG;split
 ·exact⟨Ct.zero,Ct.zero⟩
 ·split
  ·exact⟨Ct.zero,Ct.zero⟩
  ·rename_i h1;split
   ·exact⟨Ct.zero,Ct.zero⟩
   ·obtain⟨i,f,g⟩:=lg (yU h1);obtain⟨a,b⟩:=Ct.ty d ec f g;have c:∀u∈t.ar,Ct u:=λu hu=>e.part (kS hu);exact⟨Ct.sub c a,Ct.sub c b⟩
open Classical in
def FY.clo{env:List IF}{ctx:List Pm}{l C:List Ty}(h:FY env l C)(m:ml env)(ec:∀i∈env,i.fit){k:List Ty}(hk:∀t∈k,t∈l/\Ct t)(hc:∀p∈ctx,p.bound∈k):∃j,Dw env ctx j/\∀t∈k,t∈j:=by
 refine⟨C.filter λt=>decide (Ct t),?_,λt f=>hZ.2 ⟨h.init t (hk t f).1,by simpa using(hk t f).2⟩⟩;have g:∀t,t∈C.filter (λt=>decide (Ct t))↔t∈C/\Ct t:=λt=>by rw[hZ];simp
 refine⟨bM (jo _ _) (bM h.len yD),λt f=>((g t).1 f).2,λt f=>h.sz t ((g t).1 f).1,λt f u hu=>?_,λt f e=>?_,λp n=>?_⟩
 ·obtain⟨a,b⟩:=(g t).1 f;exact(g u).2 ⟨h.eA t a u hu,b.part hu⟩
 ·obtain⟨a,b⟩:=(g t).1 f;obtain⟨c,d⟩:=h.gr t a e;obtain⟨x,y⟩:=Ct.gr m ec b;exact⟨(g _).2 ⟨c,x⟩,(g _).2 ⟨d,y⟩⟩
 ·obtain⟨a,b⟩:=hk _ (hc p n);exact(g _).2 ⟨h.init _ a,b⟩
end Go.VC
namespace Go.VC.cc
open Go Go.VC Go.Proofs
def abP{l m:List Ty}{d e:D}{K:PV->List Ob->Prop}(g:d=bt ca l)(he:e=bt ca m)(hl:l.length<4294967296)
 (E:∀x∈l,∀(y:Ty)(z:Int)(c1 c2:S)(u t:D)(d0:Int)(s d2:S)(q w:D),cr x z c1 c2 u t->cr y d0 s d2 q w->∀(r:PV->List Ob->Prop),(∀b,b=same x y->r (.bool b) [])->FT 62 [] [dQ z c1 c2 u t,dQ d0 s d2 q w] r)
 (h:∀b,b=same l m->K (.bool b) []):FT 124 [] [.lst 29 d,.lst 29 e] K:=by
 refine en Z0 Tryz.func124 λA C L X=>?_;obtain⟨n,v⟩:∃n,n=l.length:=⟨_,rfl⟩;have a:Std.len d=bj n:=by rw[g,dp,v];rfl
 obtain⟨H,k⟩:∃n,n=m.length:=⟨_,rfl⟩;have c:Std.len e=bj H:=by rw[he,dp,k];rfl
 refine p2 (λJ=>?_) (λJ=>?_)
 ·refine h _ ?_;rw[xX];obtain rfl:=X.a;simp only[a,c,SD]at J;omega
 have F:m.length=n:=by obtain rfl:=X.a;simp only[a,c,SD]at J;omega
 refine lu X (λi=>i<=n/\l.take i=m.take i) (λi=>n-i) 0 ⟨bw _,yS⟩ (λ(i:Nat)=>[(5,.int .i64 i)]) ?_;rintro i ⟨I,ha⟩;cbv;constructor<;>intro h1
 ·have h5:i<l.length:=lY X.a a h1;have h6:i<m.length:=yO;have B:=iS X.a g h5;have G:=iS X.a he h6;have p:=iX X.a g h5;have o:=iX X.a he h6;cbv;refine⟨λ_=>by kernel_rfl,p,o,?_⟩;refine X.call (E _ (br h5) _ _ _ _ _ _ _ _ _ _ _ B G _ λb hb=>?_);have f:b=same l[i] m[i]:=hb;clear hb;cbv;repeat' (first|apply bk|exact zf|(intro J;cbv)|apply bB)
  ·refine h _ ?_;have:same l[i] m[i]=false:=by rw[<- f];obtain rfl:=X.a;simpa only[SD]using J
   exact(xY h5 h6 λe=>by rw[e,mD]at this;cases this).symm
  ·obtain rfl:=X.a;simp only[a,SD]at *;omega
  ·have j:same l[i] m[i]=true:=by rw[<- f];obtain rfl:=X.a;simpa only[SD,fP]using J
   refine⟨i+1,⟨by omega,by rw[cj h5,cj h6,ha,fL.1 j]⟩,by omega,?_⟩;exact yc
 ·have h5:i=n:=gY X.a a h1;subst h5;refine h _ ?_;rw[JO yO (by rw[<- v];exact ha)]
def F62:∀(t:Ty),Ty.le 4294967295 t->∀{u:Ty}{s:Int}{c1 c2:S}{p r:D}{d0:Int}{o d2:S}{n q:D}{K:PV->List Ob->Prop},cr t s c1 c2 p r->cr u d0 o d2 n q->(∀b,b=same t u->K (.bool b) [])->FT 62 [] [dQ s c1 c2 p r,dQ d0 o d2 n q] K:=by
 refine Ty.parts λt B z=>?_;intro g u s c1 c2 p r d0 o d2 n q K ht hu h;obtain⟨T,U,N,W,f⟩:=ht;obtain⟨Q,R,P,he,j⟩:=hu;have ad:=ru g;have ab:=xf g;refine en g62 Tryz.func62 λA C L X=>?_;obtain⟨d,l,a⟩:=lenOf f;obtain⟨O,w,c⟩:=lenOf j;cbv;repeat' (first|apply bk|exact zf|(intro J;cbv)|apply bB)
 ·refine h _ ?_;rw[A3 (xX _)];obtain rfl:=X.a;simp only[a,c,SD]at J;omega
 rotate_left
 ·refine h _ ?_;rw[JL];rw[<- N,<-P];obtain rfl:=X.a;simpa only[SD]using J
 ·refine h _ ?_;rw[JM];rw[<- U,<-R];obtain rfl:=X.a;simpa only[SD]using J
 ·refine h _ ?_;rw[JN];rw[<- T,<-Q];obtain rfl:=X.a;simpa only[SD]using J
 rename_i g0 g1 g2;have e0:t.k=u.k:=by rw[<- T,<-Q];obtain rfl:=X.a;simpa only[SD]using g0
 have e1:t.m=u.m:=by rw[<- U,<-R];obtain rfl:=X.a;simpa only[SD]using g1
 have e2:t.n=u.n:=by rw[<- N,<-P];obtain rfl:=X.a;simpa only[SD]using g2
 have ac:u.fl.length=d:=by obtain rfl:=X.a;simp only[a,c,SD]at J;omega
 refine lu X (λi=>i<=d/\t.fl.take i=u.fl.take i) (λi=>d-i) 0 ⟨bw _,yS⟩ (λ(i:Nat)=>[(5,.int .i64 i)]) ?_;rintro i ⟨hi,ha⟩;cbv;constructor<;>intro h1
 ·have h5:i<t.fl.length:=lY X.a a h1;have h6:i<u.fl.length:=yO;have v:=nq X.a f h5;have H:=nq X.a j h6;have l1:=Hq X.a f h5;have l2:=Hq X.a j h6;have M:=iX X.a f h5;have I:=iX X.a j h6;have k:t.fl[i]≠u.fl[i]->same t u=false:=λe=>A3 (xY h5 h6 e);cbv;repeat' (first|apply bk|exact zf|(intro J;cbv)|apply bB)
  any_goals exact M
  any_goals exact I
  ·have hs:t.fl[i].s=u.fl[i].s:=by rw[<- l1.1,<-l2.1];rename_i g3;obtain rfl:=X.a;simpa only[SD,fP]using g3
   have G:t.fl[i].b=u.fl[i].b:=by rw[<- l1.2,<-l2.2];obtain rfl:=X.a;simpa only[SD,fP]using J
   refine X.call (z _ (br h5) (xJ g _ (br h5)) v H λb hb=>?_);have m:b=same t.fl[i].t u.fl[i].t:=hb;clear hb;cbv;repeat' (first|apply bk|exact zf|(intro J;cbv)|apply bB)
   ·refine h _ ?_;have:same t.fl[i].t u.fl[i].t=false:=by rw[<- m];obtain rfl:=X.a;simpa only[SD]using J
    exact(k λe=>by rw[e,mD]at this;cases this).symm
   ·obtain rfl:=X.a;simp only[a,SD]at *;omega
   ·have E:same t.fl[i].t u.fl[i].t=true:=by rw[<- m];obtain rfl:=X.a;simpa only[SD,fP]using J
    refine⟨i+1,⟨by omega,by rw[cj h5,cj h6,ha,Fe.ext hs (fL.1 E) G]⟩,by omega,?_⟩;exact yc
  ·refine h _ ?_;refine(k λe=>?_).symm;rw[e]at l1;refine absurd (l1.2.trans l2.2.symm) ?_;obtain rfl:=X.a;simpa only[SD]using J
  ·refine h _ ?_;refine(k λe=>?_).symm;rw[e]at l1;refine absurd (l1.1.trans l2.1.symm) ?_;obtain rfl:=X.a;simpa only[SD]using J
 ·have h5:i=d:=gY X.a a h1;subst h5;have F:t.fl=u.fl:=AU yO (by rw[<- l];exact ha);cbv;refine X.call (abP W he yO (λx V y s c1 c2 p r d0 o d2 n q v H K' hK=>B x V (u7 g x V) v H hK) λb hb=>?_);cbv;refine h _ ?_;rw[hb,OZ e0 e1 e2 F]
end Go.VC.cc
namespace Go.VC
def Fe.zero:Fe:=.mk [] Ty.zero false
def dD(j:Jm):List D:=ca j.1++ca j.2
end Go.VC
namespace Go.VC.cc
open Go Go.VC Go.Proofs
end Go.VC.cc
namespace Go.VC
section
variable {X:Option (List Jm)}{sw:Bool}{c l:List Fe}{f g:Fe}{r:D}
def jk{s t:Ty}{e:Int}{a1 a2:S}{a3 a4:D}{b:Int}{b1 b2:S}{a d:D}(ha:cr s e a1 a2 a3 a4)(hb:cr t b b1 b2 a d):
 [D.int e,.str a1,.str a2,a3,a4,.int b,.str b1,.str b2,a,d]=dD (s,t):=by
 obtain⟨rfl,rfl,rfl,rfl,rfl⟩:=ha;obtain⟨rfl,rfl,rfl,rfl,rfl⟩:=hb;unfold dD;rw[dn,dn];rfl
def qS{l:List Ty}(h:0<l.length):rN l=l[0]:=by
 match l,h with
 |a::_,_=>rfl
def KZ(s t:Ty):Option (List Jm):=if EC s.fl t.fl then(er false s.fl t.fl).map (· ++[(rN s.ar,rN t.ar)])else none
def mB(X:Option (List Jm))(r:D)(b:Bool):Prop:=b=X.isSome/\∀l,X=some l->r=bt dD l
def mB.no(h:X=none):mB X r false:=by subst h;exact⟨rfl,λl e=>yC e⟩
def mB.yes{l:List Jm}(h:X=some l)(hr:r=bt dD l):mB X r true:=by subst h;exact⟨rfl,λl e=>by cases e;exact hr⟩
def yv(h:eg c f.s=none):er sw c (f::l)=none:=by rw[er,h]
def vv(h:eg c f.s=some g)(hb:(f.b&& !g.b)=true):er sw c (f::l)=none:=by rw[er,h];simp only;rw[if_pos hb]
def yw(h:eg c f.s=some g)(hb:(f.b&& !g.b)=false):er sw c (f::l)=(er sw c l).map ((if sw then(g.t,f.t)else(f.t,g.t)):: ·):=by rw[er,h];simp only;rw[if_neg (by rw[hb];decide)]
def yW{a:List Jm}{j:Jm}:(X.map (j:: ·)).map (a++ ·)=X.map (a++[j]++ ·):=by cases X<;>simp
def IP{s t:List Fe}{k:Nat}(h:k<s.length)(hf:((eg t s[k].s).isSome||s[k].b)=false):EC s t=false:=all_false h hf
end
end Go.VC
namespace Go.VC.cc
open Go Go.VC Go.Proofs
end Go.VC.cc
namespace Go.VC
section
variable {s t:Ty}
def IA(h:s.k≠t.k):j8 s t=none:=by unfold j8;rw[if_pos h]
def IE(h:s.k=t.k)(h5:s.k=5):j8 s t=some [(rN s.ar,rN t.ar)]:=by unfold j8;rw[if_neg (yU h),if_pos h5]
def IB(h:s.k=t.k)(h8:s.k=8):j8 s t=KZ s t:=by unfold j8 KZ;rw[if_neg (yU h),if_neg yO,if_neg yO,if_neg yO,if_pos h8]
def Iz(h5:s.k≠5)(h6:s.k≠6)(h7:s.k≠7)(h8:s.k≠8):j8 s t=none:=by
 unfold j8;by_cases hk:s.k≠t.k
 ·rw[if_pos hk]
 ·rw[if_neg hk,if_neg h5,if_neg h6,if_neg h7,if_neg h8]
end
end Go.VC
namespace Go.VC.cc
open Go Go.VC Go.Proofs
end Go.VC.cc
namespace Go.VC
section
variable {ps:List Pm}{xs ys:List Ty}
def F9(v:Int)(a b:Ty):List Jm:=(if v≠1 then [(a,b)]else [])++(if v≠0 then [(b,a)]else [])
def Qd{k:Nat}(h1:k<ps.length)(J:k<xs.length)(h3:k<ys.length):
 nD (ps.drop k) (xs.drop k) (ys.drop k)=F9 ps[k].var xs[k] ys[k]++nD (ps.drop (k+1)) (xs.drop (k+1)) (ys.drop (k+1)):=by
 rw[bJ h1,bJ J,bJ h3,nD];rfl
def OD(v:Int)(a b:Ty):(F9 v a b).length<=2:=by unfold F9;split<;>split<;>simp
def NG(h:ps.length=0):nD ps xs ys=[]:=by have:ps=[]:=cm h;subst this;rfl
def Ep{env:List IF}{s t:Ty}(hk:¬(s.k≠10\/t.k≠10)){r0 c b d:S}{r2 e x2:Int}(hr:(r0,c,r2)=eZ env s.m s.n)(f:(b,d,e)=eZ env t.m t.n)(g:x2=(cp env s.m s.n).2.2)(a:ps=(cp env s.m s.n).1.params):
 kJ env s t=if r2≠0\/e≠0\/x2≠0\/r0≠b\/c≠d\/s.ar.length≠ps.length\/t.ar.length≠ps.length then none else some (nD ps s.ar t.ar):=by
 unfold kJ;rw[if_neg hk,<-hr,<-f,<-g,<-a]
end
end Go.VC
namespace Go.VC.cc
open Go Go.VC Go.Proofs
def Hg{A:pP}{d:D}{l:List Jm}{i:Nat}(ha:A=Std)(a:d=bt dD l)(h:i<l.length):cr l[i].1 (A.asInt (A.cell d (bj i) 0)) (A.bG (A.cell d (bj i) 1)) (A.bG (A.cell d (bj i) 2)) (A.cell d (bj i) 3) (A.cell d (bj i) 4)/\
 cr l[i].2 (A.asInt (A.cell d (bj i) 5)) (A.bG (A.cell d (bj i) 6)) (A.bG (A.cell d (bj i) 7)) (A.cell d (bj i) 8) (A.cell d (bj i) 9):=by
 subst ha a;rw[cJ h,cJ h,cJ h,cJ h,cJ h,cJ h,cJ h,cJ h,cJ h,cJ h];unfold dD;rw[dn,dn];exact⟨⟨rfl,rfl,rfl,rfl,rfl⟩,⟨rfl,rfl,rfl,rfl,rfl⟩⟩
end Go.VC.cc
namespace Go.VC
def mB.p1{s t:Ty}{b:Bool}{r:D}(hr:r= .list [])(hb:b=(s.k==1||t.k==0||(s.k==t.k&&(s.k==2||s.k==3||s.k==4))||(s.k==9&&t.k==9&&s.n==t.n))):mB (ym s t) r b:=by
 unfold ym;subst hb;by_cases h:s.k=1\/t.k=0\/(s.k=t.k/\(s.k=2\/s.k=3\/s.k=4))\/(s.k=9/\t.k=9/\s.n=t.n)
 ·rw[if_pos h];refine⟨?_,λl e=>by cases e;rw[hr];rfl⟩;rw[Option.isSome_some,cn];simp only[fS,bn,beq_iff_eq,iff_true];rcases h with h|h|⟨h,a|a|a⟩|⟨h,a,d⟩
  ·exact .inl (.inl (.inl h))
  ·exact .inl (.inl (.inr h))
  ·exact .inl (.inr ⟨h,.inl (.inl a)⟩)
  ·exact .inl (.inr ⟨h,.inl (.inr a)⟩)
  ·exact .inl (.inr ⟨h,.inr a⟩)
  ·exact .inr ⟨⟨h,a⟩,d⟩
 ·rw[if_neg h];refine⟨?_,λl e=>yC e⟩;rw[n9,Bool.eq_false_iff];intro e;simp only[fS,bn,beq_iff_eq]at e;apply h;rcases e with((e|e)|⟨e,(e'|e')|e'⟩)|⟨⟨e,e'⟩,c⟩
  ·exact .inl e
  ·exact .inr (.inl e)
  ·exact .inr (.inr (.inl ⟨e,.inl e'⟩))
  ·exact .inr (.inr (.inl ⟨e,.inr (.inl e')⟩))
  ·exact .inr (.inr (.inl ⟨e,.inr (.inr e')⟩))
  ·exact .inr (.inr (.inr ⟨e,e',c⟩))
end Go.VC
namespace Go.VC.cc
open Go Go.VC Go.Proofs
def Vr:dH:={tt:=tt,n:=69,iU:=ZV.iU,own:=[10]}
def QE{env:List IF}{t:Ty}{d:D}{z:Int}{c1 c2:S}{v x:D}{K:PV->List Ob->Prop}(G:d=bt dy env)(hl:ey env)(p:Ty.le 4294967295 t)(I:cr t z c1 c2 v x)
 (h:∀e0 e1 e2 e3 e4 g0 g1 g2 g3 g4 r,cr (cG env t).1 e0 e1 e2 e3 e4->cr (cG env t).2.1 g0 g1 g2 g3 g4->r=(cG env t).2.2->K (.tup [dQ e0 e1 e2 e3 e4,dQ g0 g1 g2 g3 g4,.int .i64 r]) []):
 FT 136 [] [.lst 97 d,dQ z c1 c2 v x] K:=by
 obtain⟨O,P,H,f,Q⟩:=I;have U:=ru p;have o:=u7 p;have l:=DR hl (m:=t.m) (n:=t.n);unfold cG at h;rw[<- O]at h;rw[<- P,<-H]at h l;obtain⟨R,F⟩:∃R,R=cp env c1 c2:=⟨_,rfl⟩;rw[<- F]at h l;have aa:=l.np;refine en Vr Tryz.func136 λA C L X=>?_;obtain⟨E,u,b⟩:=lenOf f;refine p2 (λJ=>?_) (λJ=>?_)
 ·rw[if_pos (by obtain rfl:=X.a;simp only[SD]at J;exact J)]at h;exact h _ _ _ _ _ _ _ _ _ _ _ ⟨rfl,rfl,rfl,rfl,rfl⟩ ⟨rfl,rfl,rfl,rfl,rfl⟩ rfl
 rw[if_neg (by obtain rfl:=X.a;simp only[SD]at J;simp[J])]at h;clear J;refine X.call (Rp G hl λe0 e1 e2 e3 e4 e5 e6 e7 e8 e9 kj sy r1 r2 he w g=>?_);rw[<- F]at he w g;rw[<- g]at h;obtain⟨a0,a1,q,s⟩:=he;obtain⟨c,e,a⟩:=lenOf a1;cbv;repeat' (first|apply bk|exact zf|(intro J;cbv)|apply bB)
 ·rename_i g0 g1;rw[if_neg (by obtain rfl:=X.a;simp only[SD]at g0;simp[g0]),if_pos (by obtain rfl:=X.a;simp only[b,a,SD]at g1;omega)]at h;exact h _ _ _ _ _ _ _ _ _ _ _ ⟨rfl,rfl,rfl,rfl,rfl⟩ ⟨rfl,rfl,rfl,rfl,rfl⟩ rfl
 ·exfalso;obtain rfl:=X.a;simp[gV,gj]at J
 ·exfalso;rename_i g0 g1;obtain rfl:=X.a;simp only[SD]at g0 J;omega
 rotate_left
 ·rename_i g0;rw[if_pos (by obtain rfl:=X.a;simp only[SD]at g0;omega)]at h;exact h _ _ _ _ _ _ _ _ _ _ _ ⟨rfl,rfl,rfl,rfl,rfl⟩ ⟨rfl,rfl,rfl,rfl,rfl⟩ rfl
 ·exfalso;rename_i g0;obtain rfl:=X.a;simp only[SD]at g0 J;omega
 rename_i g0 g1;have j:t.ar.length=R.1.params.length:=by obtain rfl:=X.a;simp only[b,a,SD]at g1;omega
 rw[if_neg (by obtain rfl:=X.a;simp only[SD]at g0;simp[g0]),if_neg (by simp[j])]at h;clear g0 g1 J;refine lP X (λy=>y.1<=c/\y.2=bt cT ((R.1.params.take y.1).map (·.name))) (λy=>c-y.1) (0,.list []) ⟨bw _,rfl⟩ [0,1,2,3,4] (λ(y:Nat×D)=>⟨[(47,.int .i64 y.1),(46,.int .i64 (A.len e1)),(45,.lst 73 e1),(10,.row 9 4),(3,.box 0 0),(4,.box 1 0),(5,.box 2 0),(7,.box 3 0)],[.box [.int .i64 z,.str c1,.str c2,.lst 29 v,.lst 57 x],.box [.undef,.undef,.undef,.undef,.undef],.box [.undef,.undef,.undef,.undef,.undef],.box [.str e0,.lst 73 e1,.int .i64 e2,.str e3,.str e4,.lst 29 e5,.lst 57 e6,.int .i64 e7,.str e8,.str e9,.lst 29 kj,.lst 57 sy],.row 9 y.2 true]⟩) ?_;rintro⟨i,r⟩ ⟨V,hr⟩;simp only at V hr;cbv;constructor<;>intro h1
 ·have h5:i<R.1.params.length:=lY X.a a h1;have B:=(Es X.a a1 h5).1;have W:=iX X.a a1 h5;have T:=jX X.a h5;have hb:A.gr (A.add (A.len r) (A.len (A.lit [[.str (A.bG (A.cell e1 (bj i) 0))]]))) 4294967296:=by rw[X.a,hr];simp only[SD,bA];omega
  have N:A.app r (A.lit [[.str (A.bG (A.cell e1 (bj i) 0))]])=bt cT ((R.1.params.take (i+1)).map (·.name)):=by rw[B,X.a,hr,map_take h5];exact cD (k:=[R.1.params[i].name])
  refine p1 ?_;exact⟨(i+1,A.app r (A.lit [[.str (A.bG (A.cell e1 (bj i) 0))]])),⟨yP,N⟩,yP,[0,1,2,3,4],rfl,yc⟩
 have h5:i=c:=gY X.a a h1;subst h5;rw[e,bz]at hr;refine p1 ?_;refine X.call (QD hr f (by simpa using(by omega:R.1.params.length<4294967296)) yO o _ l.lo q λg0 g1 g2 g3 g4 M=>?_);refine p1 ?_;refine X.call (QD hr f (by simpa using(by omega:R.1.params.length<4294967296)) yO o _ l.up s λk0 B k2 k3 k4 hk=>?_);refine p1 ?_;exact h _ _ _ _ _ _ _ _ _ _ _ M hk rfl
end Go.VC.cc
namespace Go.VC
def vK{α:Type}{p:α->Bool}{l:List α}:(ou p l= -1/\l.find? p=none)\/∃(i:Nat) (h:i<l.length),ou p l=(i:Int)/\l.find? p=some l[i]:=by
 rcases nj p l with⟨h1,J⟩|⟨i,h,h1,J,h3⟩
 ·exact .inl ⟨h1,by rw[gg];intro x a;rw[J x a];decide⟩
 ·exact .inr ⟨i,h,h1,kP h J h3⟩
end Go.VC
namespace Go.VC.cc
open Go Go.VC Go.Proofs
section
variable {K:PV->List Ob->Prop}{f j c2 s:S}{c1:Int}{m g:D}
def abn{x:Pm}{c2:Int}{g:S}{a:D}(c:J0 x f c1 c2 j g m a){x0:Int}{x1 x2:S}{x3 x4:D}(h:∀b,b=(x.name==x2)->K (.bool b) []):
 FT 211 [] [L2 f c1 c2 j g m a,.du [.int .i64 x0,.str x1,.str x2,.lst 29 x3,.lst 57 x4] 0] K:=by
 obtain⟨k,_⟩:=c;refine en (cf 9) Tryz.func211 λA C L X=>?_;have q:=h (A.seq f x2) (by rw[X.a,<-k];rfl);cbv;exact q
def abo{x:Fe}{a:Bool}(c:qV x f c1 c2 j g m a)(h:∀b,b=(x.s==s)->K (.bool b) []):
 FT 209 [] [qe f c1 c2 j g m a,.du [.str s] 0] K:=by
 obtain⟨k,_⟩:=c;refine en (cf 8) Tryz.func209 λA C L X=>?_;have q:=h (A.seq f s) (by rw[X.a,<-k];rfl);cbv;exact q
def Xj{l:List Fe}{d:D}(n:d=bt fj l)(hl:l.length<=4294967295){c:S}(hs:c=s)
 (h:∀e0 e1 e2 e3 e4 e5 e6 b,qV ((eg l s).getD Fe.zero) e0 e1 e2 e3 e4 e5 e6->b=(eg l s).isSome->K (.tup [qe e0 e1 e2 e3 e4 e5 e6,.bool b]) []):
 FT 167 [] [.lst 57 d,.str c] K:=by
 subst hs;refine en (cf 17) Tryz.func167 λA C L X=>?_;have k:∀a b:Int,A.le a b=decide (a<=b):=by rw[X.a];exactλ_ _=>rfl
 cbv;refine X.call (UN .g (p:=λx=>x.s==c) n hl (λx y _ B ⟨_,_,_,_,_,_,_,e,o⟩ u=>e▸abo o u) λr hr=>?_);have hr:r=ou (λx:Fe=>x.s==c) l:=hr;rcases vK (p:=λx:Fe=>x.s==c) (l:=l)with⟨e1,e2⟩|⟨i,w,e1,e2⟩
 ·have e2:eg l c=none:=e2;have z:A.le 0 r=false:=by rw[k,hr,e1];rfl
  have q:=h [] 0 [] [] (.list []) (.list []) false false (by rw[e2];exact⟨rfl,⟨rfl,rfl,rfl,rfl,rfl⟩,rfl⟩) (by rw[e2];rfl);cbv;repeat' (first|apply bk|exact zf|(intro J;first|exact yB z J|cbv)|apply bB)
  exact q
 ·have e2:eg l c=some l[i]:=e2;have v:r=bj i:=by rw[hr,e1];rfl
  subst v;have z:A.le 0 (bj i)=true:=by rw[k];simp only[bD];simp
  have t:=iX X.a n w;have q:=h _ _ _ _ _ _ _ true (by rw[e2];exact kQ X.a n w) (by rw[e2];rfl);cbv;repeat' (first|apply bk|exact zf|(intro J;first|exact yB z J|cbv)|apply bB)
  all_goals first|exact t|exact q|skip
def abz{env:List IF}{de:D}(he:de=bt dy env)(dJ:ey env){ctx:List Pm}{dc:D}(hc:dc=bt dB ctx)(oV:ctx.length<=4294967295){t:Ty}(v:Ty.le 4294967295 t){f:Int}{c1:S}{j:D}(E:cr t f c1 c2 j g)
 (h:∀e0 e1 e2 e3 e4 b,(b=true->cr ((jG env ctx t).getD Ty.zero) e0 e1 e2 e3 e4)->b=(jG env ctx t).isSome->K (.tup [dQ e0 e1 e2 e3 e4,.bool b]) []):
 FT 169 [] [.lst 97 de,.lst 73 dc,dQ f c1 c2 j g] K:=by
 have u:=E;obtain⟨H,O,G,N,I⟩:=u;unfold jG at h;rw[<- H,<-G]at h;refine en (cf 40) Tryz.func169 λA C L X=>?_;have Z:=oY X.a;have c:=IV X.a;by_cases a:f=10
 ·have kj:A.eq f 10=true:=by rw[Z,a];rfl
  have e9:A.eq f 9=false:=by rw[Z,a];rfl
  rw[if_pos a]at h;cbv;repeat' (first|apply bk|exact zf|(intro J;first|exact yB e9 J|exact yB kj J|cbv)|apply bB|(refine X.call (QE he dJ v E λe0 e1 e2 e3 e4 g0 g1 g2 g3 g4 r M o hr=>?_);cbv))
  refine h _ _ _ _ _ _ (λhb=>?_) ?_
  ·have hb:A.eq r 0=true:=hb;rw[Z,hr]at hb;rw[if_pos (yU hb)];exact o
  ·show A.eq r 0=_;rw[Z,hr];by_cases e:(cG env t).2.2=0
   ·rw[if_pos e,e];rfl
   ·rw[if_neg e];simpa using e
 have kj:A.eq f 10=false:=by rw[Z];simpa using a
 rw[if_neg a]at h;by_cases k:f=9
 ·have e9:A.eq f 9=true:=by rw[Z,k];rfl
  rw[if_pos k]at h;cbv;repeat' (first|apply bk|exact zf|(intro J;first|exact yB e9 J|cbv)|apply bB|(refine X.call (UN .i (p:=λx=>x.name==c2) hc oV (λx P _ Q ⟨_,_,_,_,_,_,_,e,n⟩ y=>e▸abn n y) λr hr=>?_);cbv))
  all_goals (have hr:r=ou (λx:Pm=>x.name==c2) ctx:=hr)
  all_goals (
   rcases vK (p:=λx:Pm=>x.name==c2) (l:=ctx)with⟨f1,f2⟩|⟨i,F,f1,f2⟩
   ·have z:A.lt r 0=true:=by rw[c,hr,f1];rfl
    have q:=h 0 [] [] (.list []) (.list []) false (λe=>yC e) (by rw[f2];rfl)
    first
     |exact q
     |(exfalso;have d:A.lt r 0=false:=yA
       rw[z]at d;cases d;done)
   ·have B:r=bj i:=by rw[hr,f1];rfl
    subst B;have z:A.lt (bj i) 0=false:=by rw[c];simp only[bD];simp
    have w:=iX X.a hc F;have q:=h _ _ _ _ _ true (λ_=>by rw[f2];exact(im X.a hc F).2.2) (by rw[f2];rfl)
    first
     |exact w
     |exact q
     |(exfalso;have d:A.lt (bj i) 0=true:=yA
       rw[z]at d;cases d;done))
 ·have e9:A.eq f 9=false:=by rw[Z];simpa using k
  rw[if_neg k]at h;have q:=h 0 [] [] (.list []) (.list []) false (λe=>yC e) rfl;cbv;repeat' (first|apply bk|exact zf|(intro J;first|exact yB e9 J|exact yB kj J|cbv)|apply bB)
  exact q
end
section
variable {m a2 a3 i b2 c:S}{a1 b1:Int}{a4 a5 d a:D}{j f:Bool}{K:PV->List Ob->Prop}
def abC(h:K (kq b1 b2 c d a a1 a2 a3 a4 a5) []):
 FT 165 [] [qe m a1 a2 a3 a4 a5 j,qe i b1 b2 c d a f] K:=by
 refine en (cf 10) Tryz.func165 λA C L X=>?_;cbv;exact h
def abB(h:K (kq a1 a2 a3 a4 a5 b1 b2 c d a) []):
 FT 166 [] [qe m a1 a2 a3 a4 a5 j,qe i b1 b2 c d a f] K:=by
 refine en (cf 10) Tryz.func166 λA C L X=>?_;cbv;exact h
def abA(h:K (kq a1 a2 a3 a4 a5 b1 b2 c d a) []):
 FT 168 [] [qe m a1 a2 a3 a4 a5 j,qe i b1 b2 c d a f] K:=by
 refine en (cf 10) Tryz.func168 λA C L X=>?_;cbv;exact h
def Vm:dH:={tt:=tt,n:=46,own:=[6,8]}
def Yi:(∀{need n:List Fe}{h w:D}(M:h=bt fj need)(Q:w=bt fj n)(H:need.length<=1048576)(B:n.length<=4294967295){K:PV->List Ob->Prop}(u:er true n need=none->K (.tup [.row 111 0,.bool false]) [.row 111 (.list []) true])(t:∀ l r,er true n need=some l->l.length<=need.length->r=bt dD l->K (.tup [.row 111 0,.bool true]) [.row 111 r true]),FT 164 [] [.lst 57 h,.lst 57 w,.cu 165 []] K)/\
 (∀{need n:List Fe}{h w:D}(M:h=bt fj need)(Q:w=bt fj n)(H:need.length<=1048576)(B:n.length<=4294967295){K:PV->List Ob->Prop}(u:er false n need=none->K (.tup [.row 111 0,.bool false]) [.row 111 (.list []) true])(t:∀ l r,er false n need=some l->l.length<=need.length->r=bt dD l->K (.tup [.row 111 0,.bool true]) [.row 111 r true]),FT 164 [] [.lst 57 h,.lst 57 w,.cu 166 []] K)/\
 (∀{need n:List Fe}{h w:D}(M:h=bt fj need)(Q:w=bt fj n)(H:need.length<=1048576)(B:n.length<=4294967295){K:PV->List Ob->Prop}(u:er false n need=none->K (.tup [.row 111 0,.bool false]) [.row 111 (.list []) true])(t:∀ l r,er false n need=some l->l.length<=need.length->r=bt dD l->K (.tup [.row 111 0,.bool true]) [.row 111 r true]),FT 164 [] [.lst 57 h,.lst 57 w,.cu 168 []] K):=by
 refine⟨?_,?_,?_⟩;have V:=trivial
 rotate_left
 have zB:=trivial
 rotate_left
 have zC:=trivial
 rotate_left
 all_goals (
  intro need n h w M Q H B K u t;refine eo Vm Tryz.func164 λA C L X=>?_;have Y:=fg X.a;obtain⟨o,G,s⟩:=lenOf M;cbv
  first
   |(have O:=V
     refine X.ka (λ(y:Nat×List Jm×D)=>⟨[(15,.int .i64 y.1),(14,.int .i64 (A.len h)),(13,.lst 57 h),(8,.row 111 0),(2,.cu 165 []),(1,.lst 57 w),(0,.lst 57 h)],[.row 111 y.2.2 true]⟩)
      (λy=>y.1<=o/\er true n need=(er true n (need.drop y.1)).map (y.2.1++ ·)/\y.2.1.length<=y.1/\y.2.2=bt dD y.2.1) (λy=>o-y.1) (0,[],.list []) ⟨bw _,yS,bX _,rfl⟩ ?_ ?_)
   |(have O:=zB
     refine X.ka (λ(y:Nat×List Jm×D)=>⟨[(15,.int .i64 y.1),(14,.int .i64 (A.len h)),(13,.lst 57 h),(8,.row 111 0),(2,.cu 166 []),(1,.lst 57 w),(0,.lst 57 h)],[.row 111 y.2.2 true]⟩)
      (λy=>y.1<=o/\er false n need=(er false n (need.drop y.1)).map (y.2.1++ ·)/\y.2.1.length<=y.1/\y.2.2=bt dD y.2.1) (λy=>o-y.1) (0,[],.list []) ⟨bw _,yS,bX _,rfl⟩ ?_ ?_)
   |(refine X.ka (λ(y:Nat×List Jm×D)=>⟨[(15,.int .i64 y.1),(14,.int .i64 (A.len h)),(13,.lst 57 h),(8,.row 111 0),(2,.cu 168 []),(1,.lst 57 w),(0,.lst 57 h)],[.row 111 y.2.2 true]⟩)
      (λy=>y.1<=o/\er false n need=(er false n (need.drop y.1)).map (y.2.1++ ·)/\y.2.1.length<=y.1/\y.2.2=bt dD y.2.1) (λy=>o-y.1) (0,[],.list []) ⟨bw _,yS,bX _,rfl⟩ ?_ ?_)
  ·skip
   exact⟨[1],rfl,yc⟩
  rintro⟨k,v,r⟩ ⟨hk,x,W,hr⟩;simp only at hk x W hr;cbv;constructor<;>intro h1
  ·have h5:k<need.length:=lY X.a s h1;have R:=kQ X.a M h5;have k0:=R.1;have kb:=R.2.2;have kt:=R.2.1;have aa:=iX X.a M h5;have N:=jX X.a h5;rw[bJ h5]at x;have hB:∀row:List D,A.gr (A.add (A.len r) (A.len (A.lit [row]))) 4294967296:=λrow=>by rw[X.a,hr];simp only[SD];omega
   clear h1;cbv;repeat' (first|apply bk|exact zf|(intro J;cbv)|apply bB|(refine X.call (Xj Q B k0 λg0 g1 g2 g3 g4 g5 g6 b hg hb=>?_);cbv))
   all_goals try first|exact aa|exact N
   all_goals (
    have I:A.not b=false->∃g,eg n need[k].s=some g/\qV g g0 g1 g2 g3 g4 g5 g6:=λe=>by
     rw[Y,hb]at e;cases hf:eg n need[k].s with
     |none=>rw[hf]at e;simp at e
     |some g=>rw[hf]at hg;exact⟨g,rfl,hg⟩
    have U:A.not b=true->eg n need[k].s=none:=λe=>by
     rw[Y,hb]at e;cases hf:eg n need[k].s with
     |none=>rfl
     |some g=>rw[hf]at e;simp at e)
   all_goals first
    |(have z:A.not b=true:=yA
      exact u (by rw[x,yv (U z)];rfl))
    |(have z:A.not b=false:=yA
      have F:A.not (A.asBool (A.cell h (bj k) 6))=false:=yA;have E:A.not g6=true:=yA;obtain⟨g,hf,p⟩:=I z;rw[Y,kb]at F;rw[Y,p.2.2]at E;exact u (by rw[x,vv hf (by simp at F E;rw[F,E];rfl)];rfl))
    |(have z:A.not b=false:=yA
      have F:A.asBool (A.cell h (bj k) 6)=true:=yA;have E:A.not g6=true:=yA;obtain⟨g,hf,p⟩:=I z;rw[kb]at F;rw[Y,p.2.2]at E;exact u (by rw[x,vv hf (by rw[F,E];rfl)];rfl))
    |(have z:A.not b=false:=yA
      obtain⟨g,hf,p⟩:=I z
      have T:(need[k].b&& !g.b)=false:=by
       first
        |(have E:A.not g6=false:=yA
          rw[Y,p.2.2]at E;rw[E,oE])
        |(have F:A.asBool (A.cell h (bj k) 6)=false:=yA
          rw[kb]at F;rw[F,tp])
      first
       |(have O:=V
         refine X.call (abC ?_);have P:A.app r (A.lit [[.int g1,.str g2,.str g3,g4,g5,.int (A.asInt (A.cell h (bj k) 1)),.str (A.bG (A.cell h (bj k) 2)),.str (A.bG (A.cell h (bj k) 3)),A.cell h (bj k) 4,A.cell h (bj k) 5]])=bt dD (v++[(g.t,need[k].t)]):=by rw[jk p.2.1 kt,X.a,hr];exact cD (k:=[(g.t,need[k].t)]))
       |(have O:=zB
         refine X.call (abB ?_);have P:A.app r (A.lit [[.int (A.asInt (A.cell h (bj k) 1)),.str (A.bG (A.cell h (bj k) 2)),.str (A.bG (A.cell h (bj k) 3)),A.cell h (bj k) 4,A.cell h (bj k) 5,.int g1,.str g2,.str g3,g4,g5]])=bt dD (v++[(need[k].t,g.t)]):=by rw[jk kt p.2.1,X.a,hr];exact cD (k:=[(need[k].t,g.t)]))
       |(refine X.call (abA ?_)
         have P:A.app r (A.lit [[.int (A.asInt (A.cell h (bj k) 1)),.str (A.bG (A.cell h (bj k) 2)),.str (A.bG (A.cell h (bj k) 3)),A.cell h (bj k) 4,A.cell h (bj k) 5,.int g1,.str g2,.str g3,g4,g5]])=bt dD (v++[(need[k].t,g.t)]):=by rw[jk kt p.2.1,X.a,hr];exact cD (k:=[(need[k].t,g.t)]))
      rw[yw hf T]at x;simp only[cA,if_false,if_true]at x;rw[yW]at x;cbv;repeat' (first|apply bk|exact zf|(intro J;cbv)|apply bB)
      all_goals try first|exact N|exact hB _
      first
       |(have O:=V
         refine⟨(k+1,v++[(g.t,need[k].t)],_),⟨?_,x,?_,P⟩,?_,[0],rfl,?_⟩)
       |(refine⟨(k+1,v++[(need[k].t,g.t)],_),⟨?_,x,?_,P⟩,?_,[0],rfl,?_⟩)
      ·simp only;omega
      ·simp only[bp,bI,bZ];omega
      ·simp only;omega
      exact yc)
    |skip
  ·have h5:k=o:=gY X.a s h1;rw[h5,G,ch,er,cv,cz]at x;have q:=t v r x yO hr;cbv;exact q)
end
end Go.VC.cc
namespace Go.VC
abbrev qO(de dc dm a:D)(wr:Bool):List Ob:=[.box [.lst 97 de,.lst 73 dc,.mp 1,.row 9 2],.map .str 4 dm,.row 9 a wr]
abbrev qO'(de dc dm a:D)(wr:Bool):List Ob:=[.box [.lst 97 de,.lst 73 dc,.mp 1,.row 9 3],.map .str 4 dm,.dead,.row 9 a wr]
abbrev qR(de dc dm a:D)(wr:Bool)(r:D):List Ob:=[.box [.lst 97 de,.lst 73 dc,.mp 1,.row 9 4],.map .str 4 dm,.dead,.row 111 r true,.row 9 a wr]
end Go.VC
namespace Go.VC.cc
open Go Go.VC Go.Proofs
def VG:dH:={tt:=tt,n:=59,n0:=3,own:=[6]}
def abY{de dc dm j:D}{wr:Bool}{s t:Ty}{d:Int}{a1 a2:S}{a3 a4:D}{c:Int}{b1 b2:S}{u y:D}(hs:cr s d a1 a2 a3 a4)(q:cr t c b1 b2 u y)
 {K:PV->List Ob->Prop} (h:∀r b,mB (ym s t) r b->K (.tup [.row 111 3,.bool b]) (qR de dc dm j wr r)):
 FT 103 (qO de dc dm j wr) [.box 0 0,dQ d a1 a2 a3 a4,dQ c b1 b2 u y] K:=by
 obtain⟨g,E,v,f,i⟩:=id hs;obtain⟨k,B,o,m,l⟩:=id q;refine el VG Tryz.func103 λA C L X=>?_;have Y:=fg X.a;have Z:=oY X.a;have a:=OT X.a;have key:∀b,b=(s.k==1||t.k==0||(s.k==t.k&&(s.k==2||s.k==3||s.k==4))||(s.k==9&&t.k==9&&s.n==t.n))->K (.tup [.row 111 3,.bool b]) (qR de dc dm j wr (.list [])):=λb e=>h _ _ (mB.p1 rfl e);have p:A.eq d c=(s.k==t.k):=by rw[Z,g,k]
 have w:∀n,A.eq d n=(s.k==n):=λn=>by rw[Z,g]
 have z:∀n,A.eq c n=(t.k==n):=λn=>by rw[Z,k]
 have x:A.seq a2 b2=(s.n==t.n):=by rw[a,v,o]
 clear h;cbv;repeat' (first|apply bk|exact zf|(intro J;cbv)|apply bB)
 all_goals (refine key _ ?_;clear key X Y Z a f i m l hs q;simp only[fP,p,w,z,x]at *;clear p w z x g E v k B o;simp_all;done)
end Go.VC.cc
namespace Go.VC
end Go.VC
namespace Go.VC.cc
open Go Go.VC Go.Proofs
end Go.VC.cc
namespace Go.VC
open Classical
section
variable {dec:Jm->Mem->Option (Bool×Mem)}{j:Jm}{C:List Ty}{pr:Nat->Option (List Jm)}{g b l:List Jm}{r:Nat}{rs:List Nat}
def x5(m:∀j g b r,j.1∈C->j.2∈C->gG C (g,b)->dec j (g,b)=some r->Rw C g b r):
 ∀(l:List Jm)(g b:List Jm)(r:Bool×Mem),(∀j∈l,j.1∈C/\j.2∈C)->gG C (g,b)->lI dec l (g,b)=some r->(∃x,r.2.1=g++x)/\(∃x,r.2.2=b++x)/\gG C r.2
 |[],g,b,r,_,e,h=>by rw[lI]at h;cases h;exact⟨⟨[],yS⟩,⟨[],yS⟩,e⟩
 |j::l,g,b,r,hl,e,h=>by
  rw[lI]at h;cases a:dec j (g,b)with
  |none=>rw[a]at h;cases h
  |some q=>
   rw[a]at h;have i:=m j g b q (hl j yS).1 (hl j yS).2 e a;obtain⟨x,f,_⟩:=i.ext;obtain⟨y,d⟩:=i.bad;have c:=i.inv;obtain⟨n,s,b'⟩:=q;simp only at f d c;cases n with
   |false=>cases h;exact⟨⟨x,f⟩,⟨y,d⟩,c⟩
   |true=>obtain⟨⟨p,J⟩,⟨o,h3⟩,h4⟩:=x5 m l s b' r (λk hk=>hl k (by simp[hk])) c h;exact⟨⟨x++p,by rw[J,f,bL]⟩,⟨y++o,by rw[h3,d,bL]⟩,h4⟩
def sN(h1:j.1∈C)(J:j.2∈C)(c:j∉g)(m:∀r l,pr r=some l->∀k∈l,k.1∈C/\k.2∈C)
 (i:∀k f b' r,k.1∈C->k.2∈C->gG C (f,b')->dec k (f,b')=some r->Rw C f b' r):
 ∀(rs:List Nat)(b:List Jm)(q:Bool×Mem),gG C (g,b)->j∉b->gD dec pr j g rs b=some q->Rw C g b q
 |[],b,q,d,hb,h=>by rw[gD]at h;cases h;exact⟨⟨[],yS⟩,⟨[j],rfl⟩,d.fail h1 J c hb⟩
 |r::rs,b,q,d,hb,h=>by
  rw[gD]at h;cases hr:pr r with
  |none=>rw[hr]at h;exact sN h1 J c m i rs b q d hb h
  |some l=>
   rw[hr]at h;simp only at h;cases n:lI dec l (g++[j],b)with
   |none=>rw[n]at h;cases h
   |some t=>
    rw[n]at h;obtain⟨⟨x,e⟩,⟨y,p⟩,a⟩:=x5 i l (g++[j]) b t (m r l hr) (d.push h1 J c hb) n;obtain⟨u,f,b'⟩:=t;simp only at e p a;cases u with
    |true=>cases h;exact⟨⟨[j]++x,by simp[e],yS⟩,⟨y,p⟩,a⟩
    |false=>
     have o:gG C (g,b'):=by
      have:gG C (g++([j]++x),b'):=by rw[<- bL,<-e];exact a
      exact this.back
     have s:j∉b':=a.d j (by simp only[e];simp);have a2:=sN h1 J c m i rs b' q o s h;refine⟨a2.ext,?_,a2.inv⟩;obtain⟨z,hz⟩:=a2.bad;exact⟨y++z,by rw[hz,p,bL]⟩
def zP{pr:Ty->Ty->Nat->Option (List Jm)}(hC:HT C pr):
 ∀(n:Nat)(j:Jm)(g b:List Jm)(r:Bool×Mem),j.1∈C->j.2∈C->gG C (g,b)->pH pr n j (g,b)=some r->Rw C g b r
 |0,j,g,b,r,_,_,_,h=>by rw[pH]at h;cases h
 |n+1,j,g,b,r,h1,J,c,h=>by
  rw[pH]at h;by_cases hb:j∈b
  ·rw[if_pos hb]at h;cases h;exact⟨⟨[],yS⟩,⟨[],yS⟩,c⟩
  rw[if_neg hb]at h;by_cases a:j∈g
  ·rw[if_pos a]at h;cases h;exact⟨⟨[],yS⟩,⟨[],yS⟩,c⟩
  rw[if_neg a]at h;exact sN h1 J a (λr l hr=>hC _ h1 _ J r l hr) (λk d b' r a1 a2 a3 a4=>zP hC n k d b' r a1 a2 a3 a4) [1,2,3,4,5] b r c hb h
def mE(n:Nat):List Nat:=[1,2,3,4,5].drop (n-1)
def tM{n:Nat}(h:1<=n/\n<=5):mE n=n::mE (n+1):=by have:n=1\/n=2\/n=3\/n=4\/n=5:=yO;rcases this with rfl|rfl|rfl|rfl|rfl<;>rfl
def so:mE 6=[]:=rfl
def Eg(h:pr r=none):gD dec pr j g (r::rs) b=gD dec pr j g rs b:=by rw[gD,h]
def Ef{a:Bool×Mem}(h:pr r=some l)(hr:gD dec pr j g (r::rs) b=some a):
 ∃q,lI dec l (g++[j],b)=some q/\(q.1=true->a=q)/\(q.1=false->gD dec pr j g rs q.2.2=some a):=by
 rw[gD,h]at hr;simp only at hr;cases c:lI dec l (g++[j],b)with
 |none=>rw[c]at hr;cases hr
 |some q=>
  rw[c]at hr;obtain⟨d,m⟩:=q;cases d with
  |true=>cases hr;exact⟨_,rfl,λ_=>rfl,λe=>absurd e yS⟩
  |false=>exact⟨_,rfl,λe=>absurd e yS,λ_=>hr⟩
def JS{m:Mem}{q:Bool×Mem}(h:lI dec (j::l) m=some q):
 ∃r,dec j m=some r/\(r.1=true->lI dec l r.2=some q)/\(r.1=false->q=r):=by
 rw[lI]at h;cases a:dec j m with
 |none=>rw[a]at h;cases h
 |some r=>
  rw[a]at h;obtain⟨r0,m'⟩:=r;cases r0 with
  |true=>exact⟨_,rfl,λ_=>h,λe=>absurd e yS⟩
  |false=>cases h;exact⟨_,rfl,λe=>absurd e yS,λ_=>rfl⟩
end
end Go.VC
namespace Go.VC
def oI(env:List IF)(t:Ty):List Ty:=t.eA++(if(cG env t).2.2=0 then [(cG env t).1,(cG env t).2.1]else [])
structure Wt (t:Ty):Prop where
 le:Ty.le 4294967295 t
 sz:t.size<=4294967295
structure Tm (env:List IF) (l K W:List Ty):Prop where
 len:K.length<=120
 sz:∀t∈K,t.size<=200
 init:∀t∈l,t∈K\/t∈W
 cl:∀t∈K,∀u∈oI env t,u∈K\/u∈W
 wl:W.length<=l.length+K.length*202
 wt:∀t∈W,Wt t
 Ym:∀t∈K,Ty.le 4294967295 t
def Tm.start{env:List IF}{l:List Ty}(h:∀t∈l,Wt t):Tm env l [] l:=⟨yS,yS,λt a=>.inr a,yS,yS,h,yS⟩
def Tm.seen{env:List IF}{l K W:List Ty}{t:Ty}(h:Tm env l K (W++[t]))(b:t∈K):Tm env l K W:=by
 refine⟨h.len,h.sz,λu hu=>?_,λs hs u hu=>?_,?_,λu hu=>h.wt u (by simp[hu]),h.Ym⟩
 ·rcases h.init u hu with a|a
  ·exact .inl a
  ·rcases bE.1 a with a|a
   ·exact .inr a
   ·simp at a;subst a;exact .inl b
 ·rcases h.cl s hs u hu with a|a
  ·exact .inl a
  ·rcases bE.1 a with a|a
   ·exact .inr a
   ·simp at a;subst a;exact .inl b
 ·have:=h.wl;simp at this;omega
def Wt.part{t u:Ty}(h:Wt t)(hu:u∈t.eA):Wt u:=by refine⟨iW h.le u hu,?_⟩;have:=size_eq t;have J:u.size<=(t.eA.map Ty.size).sum:=vH (bH.2 ⟨u,hu,rfl⟩);have:=h.sz;omega
def Wt.gr{env:List IF}(ec:∀i∈env,i.fit){t:Ty}(d:Wt t)(hs:t.size<=200):Wt (cG env t).1/\Wt (cG env t).2.1:=by
 have z:Wt Ty.zero:=⟨lb,by simp[Ty.zero,Ty.size,Ty.lZ,Ty.ma]⟩;unfold cG;split
 ·exact⟨z,z⟩
 ·split
  ·exact⟨z,z⟩
  ·rename_i h1;split
   ·exact⟨z,z⟩
   ·obtain⟨i,e,f⟩:=lg (yU h1);have a:=(ec i e).t _ f;have b:∀u∈t.ar,Wt u/\u.size<=200:=λu hu=>by refine⟨d.part (kS hu),?_⟩;have:=size_eq t;have J:u.size<=(t.eA.map Ty.size).sum:=vH (bH.2 ⟨u,kS hu,rfl⟩);omega
    have go:∀y:Ty,y.fit->∀ns,Wt (y.sub ns t.ar):=λy c ns=>by refine⟨sub_le (λu hu=>(b u hu).1.le) y c.le,?_⟩;have:=Ls (ns:=ns) (by decide:1<=200) (λu hu=>(b u hu).2) y;have:=c.sz;omega
    exact⟨go _ a.lo _,go _ a.up _⟩
def Tm.new{env:List IF}(ec:∀i∈env,i.fit){l K W:List Ty}{t:Ty}(h:Tm env l K (W++[t]))(hk:K.length<120)(hs:t.size<=200):Tm env l (K++[t]) (W++oI env t):=by
 have d:=h.wt t yS;have e:(oI env t).length<=202:=by have:=iY t;unfold oI;rw[bp];split<;>simp<;>omega
 refine⟨yQ,λu hu=>?_,λu hu=>?_,λs c u hu=>?_,?_,λu hu=>?_,λu hu=>by
  rcases bE.1 hu with hu|hu
  ·exact h.Ym u hu
  ·simp at hu;subst hu;exact d.le⟩
 ·rcases bE.1 hu with hu|hu
  ·exact h.sz u hu
  ·simp at hu;subst hu;exact hs
 ·rcases h.init u hu with a|a
  ·exact .inl (by simp[a])
  ·rcases bE.1 a with a|a
   ·exact .inr (by simp[a])
   ·simp at a;subst a;exact .inl yS
 ·rcases bE.1 c with c|c
  ·rcases h.cl s c u hu with a|a
   ·exact .inl (by simp[a])
   ·rcases bE.1 a with a|a
    ·exact .inr (by simp[a])
    ·simp at a;subst a;exact .inl yS
  ·simp at c;subst c;exact .inr (by simp[hu])
 ·have:=h.wl;simp only[bp,bI,bZ]at this ⊢;omega
 ·rcases bE.1 hu with hu|hu
  ·exact h.wt u (by simp[hu])
  ·unfold oI at hu;rcases bE.1 hu with hu|hu
   ·exact d.part hu
   ·obtain⟨a,b⟩:=Wt.gr ec d hs;split at hu
    ·simp at hu;rcases hu with rfl|rfl
     ·exact a
     ·exact b
    ·simp at hu
def Tm.fin{env:List IF}{l K:List Ty}(h:Tm env l K []):FY env l K:=by
 refine⟨h.len,h.sz,λt b=>?_,λt b u hu=>?_,λt b e=>⟨?_,?_⟩⟩
 ·rcases h.init t b with a|a
  ·exact a
  ·simp at a
 ·rcases h.cl t b u (cy _ hu)with a|a
  ·exact a
  ·simp at a
 ·rcases h.cl t b _ (cP _ (by rw[if_pos e];exact List.mem_cons_self))with a|a
  ·exact a
  ·simp at a
 ·rcases h.cl t b (cG env t).2.1 (cP _ (by rw[if_pos e];simp))with a|a
  ·exact a
  ·simp at a
def RL(l K W:List Ty):Nat:=(120-K.length)*(l.length+24241)+W.length
def Ll{l K W:List Ty}{t:Ty}:RL l K W<RL l K (W++[t]):=by unfold RL;simp
def Ij{env:List IF}{l K W a:List Ty}{t:Ty}(h:Tm env l (K++[t]) a)(hk:K.length<120):RL l (K++[t]) a<RL l K (W++[t]):=by have:=h.wl;unfold RL;simp only[bp,bI,bZ]at this ⊢;obtain⟨d,b⟩:∃d,120-K.length=d+1:=⟨119-K.length,yO⟩;have e:120-(K.length+(0+1))=d:=yO;rw[e,b,Nat.succ_mul];omega
section
variable {env:List IF}{ctx:List Pm}
def gG.TR{C:List Ty}(h:Dw env ctx C){m:Mem}(a:gG C m):m.1.length<=19600/\m.2.length<=19600:=by have h1:=h.len;have J:C.length*C.length<=140*140:=lG h1 h1;exact⟨bM a.Yk J,bM a.Yl J⟩
def rF{sw:Bool}{b:List Fe}:∀{l:List Fe}{r:List Jm},er sw b l=some r->r.length=l.length
 |[],r,h=>by rw[er]at h;cases h;rfl
 |f::l,r,h=>by
  rw[er]at h;split at h
  ·cases h
  ·split at h
   ·cases h
   ·cases a:er sw b l with
    |none=>rw[a]at h;cases h
    |some q=>rw[a]at h;simp only[cv,cw]at h;subst h;simp[rF a]
def FK:∀{ps:List Pm}{xs ys:List Ty},(nD ps xs ys).length<=2*xs.length
 |[],xs,ys=>by simp[nD]
 |p::ps,[],ys=>by simp[nD]
 |p::ps,a::xs,[]=>by simp[nD]
 |p::ps,a::xs,b::ys=>by have:=FK (ps:=ps) (xs:=xs) (ys:=ys);rw[nD];simp only[bp,bI];split<;>split<;>simp<;>omega
def yk{s t:Ty}{r:Nat}{l:List Jm}(h:lK env ctx s t r=some l):l.length<=s.fl.length+t.fl.length+2*s.ar.length+1:=by
 unfold lK at h;split at h
 ·unfold ym at h;split at h
  ·cases h;simp
  ·cases h
 ·split at h
  ·unfold j8 at h;split at h
   ·cases h
   ·split at h
    ·cases h;simp
    ·split at h
     ·have:=rF h;omega
     ·split at h
      ·have:=rF h;omega
      ·split at h
       ·split at h
        ·cases a:er false s.fl t.fl with
         |none=>rw[a]at h;cases h
         |some q=>rw[a]at h;have:=rF a;cases h;simp;omega
        ·cases h
       ·cases h
  ·split at h
   ·unfold kJ at h;split at h
    ·cases h
    ·split at h
     ·cases h
     ·cases h;have:=FK (ps:=(cp env s.m s.n).1.params) (xs:=s.ar) (ys:=t.ar);omega
   ·split at h
    ·unfold tS at h;cases hb:jG env ctx s with
     |none=>rw[hb]at h;cases h
     |some u=>rw[hb]at h;cases h;simp
    ·unfold yl at h;split at h
     ·cases h;simp
     ·cases h
end
end Go.VC
namespace Go.VC.cc
open Go Go.VC Go.Proofs
open Classical
def Rl(env:List IF)(ctx:List Pm)(C:List Ty)(s t:Ty)(b:Bool):Prop:=∃n m,pH (lK env ctx) n (s,t) ([],[])=some (b,m)
end Go.VC.cc
namespace Go.VC.cc
open Go Go.VC Go.Proofs
section
variable {env:List IF}{ctx:List Pm}{C:List Ty}{de dc dm d f:D}{n:Nat}{g b l:List Jm}{m:List (S×Bool)}{c:Bool×Mem}{K:PV->List Ob->Prop}
def Dt(env:List IF)(ctx:List Pm)(C:List Ty)(de dc:D)(n:Nat):Prop:=
 ∀{s t:Ty}{g b:List Jm}{m:List (S×Bool)}{dm d:D}{c:Bool×Mem}{h:Int}{a1 a2:S}{a3 a4:D}{i:Int}{b1 b2:S}{k j:D}{K:PV->List Ob->Prop},s∈C->t∈C->
  pH (lK env ctx) n (s,t) (g,b)=some c->gG C (g,b)->MK m g b->dm=bt cM m->d=bt cT (g.map ja)->cr s h a1 a2 a3 a4->cr t i b1 b2 k j->
  (∀r m' e a,r=c.1->MK m' c.2.1 c.2.2->e=bt cM m'->a=bt cT (c.2.1.map ja)->K (.bool r) (qO' de dc e a true))->
  FT 49 (qO de dc dm d true) [.box 0 0,kq h a1 a2 a3 a4 i b1 b2 k j] K
def Vy:dH:={tt:=tt,n:=8,n0:=4,live:=[49]}
def Vl:dH:={tt:=tt,n:=19,n0:=4,live:=[109]}
def Vz:dH:={tt:=tt,n:=9,n0:=4,live:=[170]}
def abS(H:Dt env ctx C de dc n){s t:Ty}(w:s∈C)(v:t∈C)(o:pH (lK env ctx) n (s,t) (g,b)=some c)(G:gG C (g,b))(x:MK m g b)(u:dm=bt cM m)(p:d=bt cT (g.map ja))
 {E:Int}{a1 a2:S}{a3 a4:D}{z:Int}{b1 b2:S}{y B:D} (hs:cr s E a1 a2 a3 a4) (F:cr t z b1 b2 y B)
 (h:∀r m' e a,r= !c.1->MK m' c.2.1 c.2.2->e=bt cM m'->a=bt cT (c.2.1.map ja)->K (.bool r) (XY de dc e a)):
 FT 109 (fO de dc dm d) [kq E a1 a2 a3 a4 z b1 b2 y B,.box 0 0] K:=by
 refine el Vy Tryz.func109 λA I L X=>?_;have Y:=fg X.a;cbv;refine X.call (H w v o G x u p hs F λr m' e a hr k j i=>?_);have q:=h (A.not r) m' e a (by rw[Y,hr]) k j i;cbv;exact q
def aby(hC:Dw env ctx C)(ih:Dt env ctx C de dc n)(hl:f=bt dD l)(R:l.length<=4294967290)(P:∀j∈l,j.1∈C/\j.2∈C)(a:lI (pH (lK env ctx) n) l (g,b)=some c)(I:gG C (g,b))(t:MK m g b)(s:dm=bt cM m)(p:d=bt cT (g.map ja))
 (h:∀(r:Int) m' w v,(0<=r↔c.1=false)->MK m' c.2.1 c.2.2->w=bt cM m'->v=bt cT (c.2.1.map ja)->K (.int .i64 r) (XY de dc w v)):
 FT 170 (fO de dc dm d) [.lst 111 f,.cu 109 [.box 0 0]] K:=by
 refine el Vl Tryz.func170 λA C2 L X=>?_;have Y:=fg X.a;obtain⟨dec,F⟩:∃dec,dec=pH (lK env ctx) n:=⟨_,rfl⟩;rw[<- F]at a;have M:=hC.closed;obtain⟨u,G,k⟩:=lenOf hl;cbv
 refine X.ka (λ(y:Nat×Mem×D×D)=>⟨[(8,.int .i64 y.1),(7,.int .i64 (A.len f)),(1,.cu 109 [.box 0 0]),(0,.lst 111 f)],[.box [.box 1 0],.box [.lst 97 de,.lst 73 dc,.mp 2,.row 9 4],.map .str 4 y.2.2.1,.dead,.row 9 y.2.2.2 true]⟩)
  (λy=>y.1<=u/\lI dec (l.drop y.1) y.2.1=some c/\gG C y.2.1/\(∃m,MK m y.2.1.1 y.2.1.2/\y.2.2.1=bt cM m)/\y.2.2.2=bt cT (y.2.1.1.map ja)) (λy=>u-y.1) (0,(g,b),dm,d) ⟨bw _,a,I,⟨m,t,s⟩,p⟩ ?_ ?_
 ·exact⟨[0,1,2,3,4],rfl,yc⟩
 clear a I t s p;rintro⟨i,mem,dm,d⟩ ⟨V,a,I,⟨m,t,s⟩,p⟩;simp only at V a I t s p;cbv;constructor<;>intro h1
 ·have h5:i<l.length:=lY X.a k h1;have ab:=iX X.a hl h5;have U:=jX X.a h5;rw[bJ h5]at a;obtain⟨H,g1,g2,g3⟩:=JS a;have o:=P _ (br h5);obtain⟨Q,W⟩:=Hg X.a hl h5;rw[F]at g1;have T:=zP M n l[i] mem.1 mem.2 H o.1 o.2 I g1;clear h1;refine p1 ?_;refine X.call (abS ih o.1 o.2 g1 I t s p Q W λr m' w v hr E B x=>?_);cbv;constructor<;>intro z
  ·have e3:H.1=false:=by
    have N:r=true:=z;cases O:H.1 with
    |false=>rfl
    |true=>rw[N,O]at hr;cases hr
   have e4:=g3 e3;have q:=h (bj i) m' w v ⟨λ_=>by rw[e4];exact e3,λ_=>yL⟩ (by rw[e4];exact E) B (by rw[e4];exact x);cbv;exact q
  ·have e3:H.1=true:=by
    have N:r=false:=z;cases O:H.1 with
    |true=>rfl
    |false=>rw[N,O]at hr;cases hr
   have e4:=g2 e3;refine p1 ?_;exact⟨(i+1,H.2,w,v),⟨yP,e4,T.inv,⟨m',E,B⟩,x⟩,yP,[0,1,2,3,5],rfl,yc⟩
 ·have h5:i=u:=gY X.a k h1;rw[h5,G,ch,lI]at a;cases a;have q:=h (-1) m dm d ⟨λe=>absurd e yD,λe=>yC e⟩ t s p;clear h1;cbv;repeat' (first|apply bk|exact zf|(intro J;cbv)|apply bB)
  exact q
def abT(hC:Dw env ctx C)(B:Dt env ctx C de dc n)(hl:f=bt dD l)(u:l.length<=4294967290)(x:∀j∈l,j.1∈C/\j.2∈C)(p:lI (pH (lK env ctx) n) l (g,b)=some c)(z:gG C (g,b))(y:MK m g b)(t:dm=bt cM m)(v:d=bt cT (g.map ja))
 (h:∀r m' i e,r= !c.1->MK m' c.2.1 c.2.2->i=bt cM m'->e=bt cT (c.2.1.map ja)->K (.bool r) (XY de dc i e)):
 FT 108 (fO de dc dm d) [.lst 111 f,.cu 109 [.box 0 0]] K:=by
 refine el Vz Tryz.func108 λA E L X=>?_;have w:∀a b:Int,A.le a b=decide (a<=b):=by rw[X.a];exactλ_ _=>rfl
 cbv;refine X.call (aby hC B hl u x p z y t v λr m' i e hr s k o=>?_);have q:=h (A.le 0 r) m' i e (by rw[w,cn,decide_eq_true_iff,hr];cases c.1<;>simp) s k o;cbv;exact q
end
section
variable {env:List IF}{t s:Ty}{de dc dm g a3 a4 c d:D}{wr:Bool}{f a:Int}{a1 a2 b1 b2:S}{K:PV->List Ob->Prop}
def VB:dH:={tt:=tt,n:=28,n0:=3,pC:=[21,22],own:=[6,26],ox:=[1]}
def VA:dH:={tt:=tt,n:=30,n0:=3,pC:=[21,22,23],own:=[6,27],ox:=[3]}
def abV(he:de=bt dy env)(dJ:ey env){ctx:List Pm}(hc:dc=bt dB ctx)(oV:ctx.length<=4294967295)(m:Ty.le 4294967295 s)(hs:cr s f a1 a2 a3 a4)(p:cr t a b1 b2 c d)
 (h:∀r b,mB (tS env ctx s t) r b->K (.tup [.row 111 3,.bool b]) (qR de dc dm g wr r)):
 FT 106 (qO de dc dm g wr) [.box 0 0,dQ f a1 a2 a3 a4,dQ a b1 b2 c d] K:=by
 refine el VB Tryz.func106 λA C L X=>?_;unfold tS at h;cbv
 refine X.cut (λ(z:(Int×S×S×D×D)×Bool)=>⟨[(9,.bool z.2),(8,.box 6 0),(5,.box 5 0),(4,.box 4 0)],[.box [.lst 97 de,.lst 73 dc,.mp 1,.row 9 3],.map .str 4 dm,.dead,.row 9 g wr,.box [.int .i64 f,.str a1,.str a2,.lst 29 a3,.lst 57 a4],.box [.int .i64 a,.str b1,.str b2,.lst 29 c,.lst 57 d],.box [.int .i64 z.1.1,.str z.1.2.1,.str z.1.2.2.1,.lst 29 z.1.2.2.2.1,.lst 57 z.1.2.2.2.2]]⟩)
  (λz=>(z.2=true->cr ((jG env ctx s).getD Ty.zero) z.1.1 z.1.2.1 z.1.2.2.1 z.1.2.2.2.1 z.1.2.2.2.2)/\z.2=(jG env ctx s).isSome) ?_ ?_
 ·cbv;repeat' (first|apply bk|exact zf|(intro J;cbv)|apply bB|(refine X.call (abz he dJ hc oV m hs λk o j i n b hu hb=>?_);cbv))
  all_goals (
   exact⟨((k,o,j,i,n),b),⟨hu,hb⟩,[0,1,2,3,4,5,7],rfl,yc⟩)
 rintro⟨⟨k,o,j,i,n⟩,b⟩ ⟨hu,hb⟩;simp only at hu hb;cases e:jG env ctx s with
 |none=>rw[e]at hb;obtain rfl:b=false:=hb;have q:=λr=>h r false (by rw[e];exact mB.no rfl);cbv;exact q _
 |some u=>rw[e]at hb hu;obtain rfl:b=true:=hb;have q:=h _ true (mB.yes (l:=[(u,t)]) (r:=A.lit [[.int k,.str o,.str j,i,n,.int a,.str b1,.str b2,c,d]]) (by rw[e];rfl) (by refine gv (congrArg (λz=>A.lit [z]) (jk (hu rfl) p)) ?_;rw[X.a];rfl));cbv;exact q
def BU(h:t.k≠10):(cG env t).2.2≠0:=by unfold cG;rw[if_pos h];decide
def abU(he:de=bt dy env)(dJ:ey env)(dA:Ty.le 4294967295 t)(hs:cr s f a1 a2 a3 a4)(p:cr t a b1 b2 c d)
 (h:∀r b,mB (yl env s t) r b->K (.tup [.row 111 3,.bool b]) (qR de dc dm g wr r)):
 FT 107 (qO de dc dm g wr) [.box 0 0,dQ f a1 a2 a3 a4,dQ a b1 b2 c d] K:=by
 refine el VA Tryz.func107 λA C L X=>?_;have Y:=fg X.a;have Z:=oY X.a;have j:A.not (A.eq a 10)= !(t.k==10):=by rw[Y,Z,p.1]
 unfold yl at h;by_cases hk:t.k=10
 ·have j:A.not (A.eq a 10)=false:=by rw[j,hk];rfl
  cbv;repeat' (first|apply bk|exact zf|(intro J;first|exact yB j J|cbv)|apply bB)
  refine X.cut (λ(z:(Int×S×S×D×D)×Int)=>⟨[(10,.int .i64 z.2),(8,.box 6 0),(5,.box 5 0),(4,.box 4 0)],[.box [.lst 97 de,.lst 73 dc,.mp 1,.row 9 3],.map .str 4 dm,.dead,.row 9 g wr,.box [.int .i64 f,.str a1,.str a2,.lst 29 a3,.lst 57 a4],.box [.int .i64 a,.str b1,.str b2,.lst 29 c,.lst 57 d],.box [.int .i64 z.1.1,.str z.1.2.1,.str z.1.2.2.1,.lst 29 z.1.2.2.2.1,.lst 57 z.1.2.2.2.2]]⟩)
   (λz=>cr (cG env t).1 z.1.1 z.1.2.1 z.1.2.2.1 z.1.2.2.2.1 z.1.2.2.2.2/\z.2=(cG env t).2.2) ?_ ?_
  ·cbv;repeat' (first|apply bk|exact zf|(intro J;cbv)|apply bB|(refine X.call (QE he dJ dA p λm o l k n g0 g1 g2 g3 g4 r i u hr=>?_);cbv))
   all_goals first
    |(exact⟨((m,o,l,k,n),r),⟨i,hr⟩,[0,1,2,3,4,5,7],rfl,yc⟩
      done)
    |(exact⟨((m,o,l,k,n),r),⟨i,hr⟩,[0,1,2,3,4,5,8],rfl,yc⟩
      done)
    |skip
  rintro⟨⟨m,o,l,k,n⟩,r⟩ ⟨i,hr⟩;simp only at i hr
  have q:=h (A.lit [[.int f,.str a1,.str a2,a3,a4,.int m,.str o,.str l,k,n]]) (A.eq r 0) (by
   rw[Z,hr];by_cases e:(cG env t).2.2=0
   ·rw[if_pos e,e];refine mB.yes rfl ?_;refine gv (congrArg (λz=>A.lit [z]) (jk hs i)) ?_;rw[X.a];rfl
   ·rw[if_neg e];have:((cG env t).2.2==0)=false:=yU e;rw[this];exact mB.no rfl)
  cbv;exact q
 ·have j:A.not (A.eq a 10)=true:=by rw[j];simpa using hk
  have q:=λr=>h r false (mB.no (by rw[if_neg (BU hk)]));cbv;repeat' (first|apply bk|exact zf|(intro J;first|exact yB j J|cbv)|apply bB)
  exact q _
end
end Go.VC.cc
namespace Go.VC
def ID{s t:Ty}(h:s.k=t.k)(h6:s.k=6):j8 s t=er true s.fl t.fl:=by unfold j8;rw[if_neg (yU h),if_neg yO,if_pos h6]
def IC{s t:Ty}(h:s.k=t.k)(h7:s.k=7):j8 s t=er false t.fl s.fl:=by unfold j8;rw[if_neg (yU h),if_neg yO,if_neg yO,if_pos h7]
end Go.VC
namespace Go.VC.cc
open Go Go.VC Go.Proofs
def VF:dH:={tt:=tt,n:=106,n0:=3,pC:=[91,92],own:=[6,41],iU:=Z4.iU}
def abX{de dc dm E:D}{wr:Bool}{s t:Ty}(ag:Ty.le 4294967295 s)(dA:Ty.le 4294967295 t)(y:s.rZ)(w:t.rZ)(fW:s.fl.length<=1048576/\t.fl.length<=1048576){c:Int}{a1 a2:S}{a3 a4:D}{O:Int}{b1 b2:S}{j b4:D}(hs:cr s c a1 a2 a3 a4)(ht:cr t O b1 b2 j b4)
 {K:PV->List Ob->Prop} (m:∀r b,mB (j8 s t) r b->K (.tup [.row 111 3,.bool b]) (qR de dc dm E wr r)):
 FT 104 (qO de dc dm E wr) [.box 0 0,dQ c a1 a2 a3 a4,dQ O b1 b2 j b4] K:=by
 obtain⟨Q,s1,s2,o,n⟩:=id hs;obtain⟨t0,t1,t2,p,x⟩:=id ht;have P:s.fl.length<=4294967295:=by cases ag;assumption
 have T:t.fl.length<=4294967295:=by cases dA;assumption
 have h:j8 s t=none->K (.tup [.row 111 3,.bool false]) (qR de dc dm E wr (.list [])):=λe=>m _ _ (mB.no e);refine el VF Tryz.func104 λA C L X=>?_;have Y:=fg X.a;have Z:=oY X.a;have v:A.not (A.eq c O)= !(s.k==t.k):=by rw[Y,Z,Q,t0]
 have e5:A.eq c 5=(s.k==5):=by rw[Z,Q]
 have e6:A.eq c 6=(s.k==6):=by rw[Z,Q]
 have e7:A.eq c 7=(s.k==7):=by rw[Z,Q]
 have e8:A.eq c 8=(s.k==8):=by rw[Z,Q]
 have el:A.not (A.eq (A.len a3) (A.len j))= !(s.ar.length==t.ar.length):=by rw[Y,Z,X.a,o,p,dp,dp,cn];simp[HX]
 cbv;by_cases hk:s.k=t.k
 ·have v:A.not (A.eq c O)=false:=by rw[v];simpa using hk
  by_cases h5:s.k=5
  ·have has:=y.a (.inl h5);have a:=w.a (.inl (by rw[<- hk];exact h5));have el:A.not (A.eq (A.len a3) (A.len j))=false:=by rw[el,has,a];rfl
   have has:0<s.ar.length:=yO;have a:0<t.ar.length:=yO;have e5:A.eq c 5=true:=by rw[e5];simpa using h5
   have V:A.idx 0 (A.len a3):=by rw[X.a,o];exact cY (i:=0) has
   have U:A.idx 0 (A.len j):=by rw[X.a,p];exact cY (i:=0) a
   have q1:=jk (iS X.a o has) (iS X.a p a);repeat' (first|apply bk|exact zf|(intro J;first|exact yB v J|exact yB el J|exact yB e5 J|cbv)|apply bB)
   all_goals try first|exact V|exact U
   refine m _ _ (mB.yes (IE hk h5) ?_);rw[qS has,qS a];refine gv (congrArg (λz=>A.lit [z]) q1) ?_;rw[X.a];rfl
  have e5:A.eq c 5=false:=by rw[e5];simpa using h5
  by_cases h6:s.k=6
  ·have has:=(y.r (.inl h6)).1;have a:=(w.r (.inl (by rw[<- hk];exact h6))).1;have el:A.not (A.eq (A.len a3) (A.len j))=false:=by rw[el,has,a];rfl
   have e6:A.eq c 6=true:=by rw[e6];simpa using h6
   have H:=ID hk h6;have I:er true s.fl t.fl=none->K (.tup [.row 111 3,.bool false]) (qR de dc dm E wr (.list [])):=λe=>m _ _ (mB.no (by rw[H];exact e));have N:∀l r,er true s.fl t.fl=some l->r=bt dD l->K (.tup [.row 111 3,.bool true]) (qR de dc dm E wr r):=λl r e u=>m _ _ (mB.yes (by rw[H];exact e) u);clear m h;repeat' (first|apply bk|exact zf|(intro J;first|exact yB v J|exact yB el J|exact yB e5 J|exact yB e6 J|cbv)|apply bB|(refine X.call (Yi.1 x n fW.2 P (λe=>?_) (λl r e ab u=>?_));cbv))
   ·exact I e
   all_goals (
    refine p1 ?_;exact N _ _ e u)
  have e6:A.eq c 6=false:=by rw[e6];simpa using h6
  by_cases h7:s.k=7
  ·have has:=(y.r (.inr h7)).1;have a:=(w.r (.inr (by rw[<- hk];exact h7))).1;have el:A.not (A.eq (A.len a3) (A.len j))=false:=by rw[el,has,a];rfl
   have e7:A.eq c 7=true:=by rw[e7];simpa using h7
   have H:=IC hk h7;have I:er false t.fl s.fl=none->K (.tup [.row 111 3,.bool false]) (qR de dc dm E wr (.list [])):=λe=>m _ _ (mB.no (by rw[H];exact e));have N:∀l r,er false t.fl s.fl=some l->r=bt dD l->K (.tup [.row 111 3,.bool true]) (qR de dc dm E wr r):=λl r e u=>m _ _ (mB.yes (by rw[H];exact e) u);clear m h;repeat' (first|apply bk|exact zf|(intro J;first|exact yB v J|exact yB el J|exact yB e5 J|exact yB e6 J|exact yB e7 J|cbv)|apply bB|(refine X.call (Yi.2.1 n x fW.1 T (λe=>?_) (λl r e ab u=>?_));cbv))
   ·exact I e
   all_goals (
    refine p1 ?_;exact N _ _ e u)
  have e7:A.eq c 7=false:=by rw[e7];simpa using h7
  by_cases h8:s.k=8
  ·have has:=y.a (.inr h8);have a:=w.a (.inr (by rw[<- hk];exact h8));have el:A.not (A.eq (A.len a3) (A.len j))=false:=by rw[el,has,a];rfl
   have has:0<s.ar.length:=yO;have a:0<t.ar.length:=yO;have e8:A.eq c 8=true:=by rw[e8];simpa using h8
   have V:A.idx 0 (A.len a3):=by rw[X.a,o];exact cY (i:=0) has
   have U:A.idx 0 (A.len j):=by rw[X.a,p];exact cY (i:=0) a
   have q1:=jk (iS X.a o has) (iS X.a p a);have H:=IB hk h8;rw[H]at h m;obtain⟨q,F,g⟩:=lenOf n;repeat' (first|apply bk|exact zf|(intro J;first|exact yB v J|exact yB el J|exact yB e5 J|exact yB e6 J|exact yB e7 J|exact yB e8 J|cbv)|apply bB)
   refine lP X (λk=>k<=q/\(s.fl.take k).all (λf=>(eg t.fl f.s).isSome||f.b)=true) (λk=>q-k) 0 ⟨bw _,rfl⟩ [0,1,2,3,4,5] (λ(k:Nat)=>⟨[(65,.int .i64 k),(64,.int .i64 (A.len a4)),(63,.lst 57 a4),(5,.box 5 0),(4,.box 4 0)],[.box [.lst 97 de,.lst 73 dc,.mp 1,.row 9 3],.map .str 4 dm,.dead,.row 9 E wr,.box [.int .i64 c,.str a1,.str a2,.lst 29 a3,.lst 57 a4],.box [.int .i64 O,.str b1,.str b2,.lst 29 j,.lst 57 b4]]⟩) ?_;rintro k ⟨W,M⟩;cbv;constructor<;>intro h1
   ·have d:k<s.fl.length:=lY X.a g h1;have k1:=kQ X.a n d;have k0:=k1.1;have kb:=k1.2.2;have af:=iX X.a n d;have ac:=jX X.a d;have G:((eg t.fl s.fl[k].s).isSome||s.fl[k].b)=false->KZ s t=none:=λe=>by unfold KZ;rw[IP d e];rfl
    have ae:((eg t.fl s.fl[k].s).isSome||s.fl[k].b)=true->(s.fl.take (k+1)).all (λf=>(eg t.fl f.s).isSome||f.b)=true:=λe=>lz d M e;clear h1;cbv;repeat' (first|apply bk|exact zf|(intro J;cbv)|apply bB|(refine X.call (Xj x T k0 λg0 g1 g2 g3 g4 g5 g6 b hg hb=>?_);cbv))
    all_goals try first|exact af|exact ac
    all_goals first
     |(have z:A.not b=true:=yA
       have B:A.not (A.asBool (A.cell a4 (bj k) 6))=true:=yA;rw[Y,hb]at z;rw[Y,kb]at B;exact h (G (by simp at z B;simp[z,B])))
     |(have e:((eg t.fl s.fl[k].s).isSome||s.fl[k].b)=true:=by
        first
         |(have z:A.not b=false:=yA
           rw[Y,hb]at z;have z:(eg t.fl s.fl[k].s).isSome=true:=yU z;rw[z];rfl)
         |(have B:A.not (A.asBool (A.cell a4 (bj k) 6))=false:=yA
           rw[Y,kb]at B;have B:s.fl[k].b=true:=yU B;rw[B,xz])
       exact⟨k+1,⟨yO,ae e⟩,yO,[0,1,2,3,4,5],rfl,yc⟩)
     |skip
   ·have d:k=q:=gY X.a g h1;rw[d,F,bz]at M;have hF:KZ s t=(er false s.fl t.fl).map (· ++[(rN s.ar,rN t.ar)]):=by unfold KZ EC;rw[M,if_pos rfl]
    rw[hF]at m;clear h1 W d h;cbv;refine X.call (Yi.2.2 x n fW.2 P (λe=>?_) (λl r e aj u=>?_))
    ·rw[e]at m;cbv;repeat' (first|apply bk|exact zf|(intro J;cbv)|apply bB)
     all_goals try first|exact V|exact U
     all_goals first
      |exact m _ _ (mB.no rfl)
      |(show A.gr _ _;rw[X.a];simp only[SD];decide)
      |skip
     all_goals trace_state
    ·rw[e]at m;have hB:∀row:List D,A.gr (A.add (A.len r) (A.len (A.lit [row]))) 4294967296:=λrow=>by rw[X.a,u];simp only[SD];omega
     have R:A.app r (A.lit [[.int (A.asInt (A.cell a3 0 0)),.str (A.bG (A.cell a3 0 1)),.str (A.bG (A.cell a3 0 2)),A.cell a3 0 3,A.cell a3 0 4,.int (A.asInt (A.cell j 0 0)),.str (A.bG (A.cell j 0 1)),.str (A.bG (A.cell j 0 2)),A.cell j 0 3,A.cell j 0 4]])=bt dD (l++[(rN s.ar,rN t.ar)]):=by rw[qS has,qS a];refine gv (congrArg (λz=>A.app r (A.lit [z])) q1) ?_;rw[X.a,u];exact cD (k:=[(s.ar[0],t.ar[0])])
     cbv;repeat' (first|apply bk|exact zf|(intro J;cbv)|apply bB)
     all_goals try first|exact V|exact U|exact hB _
     all_goals first
      |exact m _ _ (mB.yes rfl R)
      |skip
     all_goals trace_state
  have e8:A.eq c 8=false:=by rw[e8];simpa using h8
  repeat' (first|apply bk|exact zf|(intro J;first|exact yB v J|exact yB e5 J|exact yB e6 J|exact yB e7 J|exact yB e8 J|cbv)|apply bB)
  all_goals exact h (Iz h5 h6 h7 h8)
 ·have v:A.not (A.eq c O)=true:=by rw[v];simpa using hk
  repeat' (first|apply bk|exact zf|(intro J;first|exact yB v J|cbv)|apply bB)
  all_goals exact h (IA hk)
def VD:dH:={tt:=tt,n:=149,n0:=3,iU:=Z3.iU,own:=[6,17],ox:=[5],pC:=[64,65,66]}
def abW{env:List IF}{de:D}(he:de=bt dy env)(dJ:ey env){dc dm W:D}{wr:Bool}{s t:Ty}(a7:Ty.le 4294967295 s)(dA:Ty.le 4294967295 t)(fW:s.ar.length<=1048576){M:Int}{a1 a2:S}{a3 a4:D}{F:Int}{b1 b2:S}{m b4:D}(hs:cr s M a1 a2 a3 a4)(ht:cr t F b1 b2 m b4)
 {K:PV->List Ob->Prop} (h:∀r b,mB (kJ env s t) r b->K (.tup [.row 111 3,.bool b]) (qR de dc dm W wr r)):
 FT 105 (qO de dc dm W wr) [.box 0 0,dQ M a1 a2 a3 a4,dQ F b1 b2 m b4] K:=by
 have hn:kJ env s t=none->K (.tup [.row 111 3,.bool false]) (qR de dc dm W wr (.list [])):=λe=>h _ _ (mB.no e);obtain⟨s0,s1,s2,E,a5⟩:=id hs;obtain⟨t0,t1,t2,N,bb⟩:=id ht;refine el VD Tryz.func105 λA C L X=>?_;have Y:=fg X.a;have Z:=oY X.a;have V:=OT X.a;by_cases hk:s.k≠10\/t.k≠10
 ·have q:=hn (by unfold kJ;rw[if_pos hk])
  have ed:A.not (A.eq M 10)=true\/A.not (A.eq F 10)=true:=by
   rcases hk with hk|hk
   ·exact .inl (by rw[Y,Z,s0];simpa using hk)
   ·exact .inr (by rw[Y,Z,t0];simpa using hk)
  clear hn h;cbv;repeat' (first|apply bk|exact zf|(intro J;first|(exfalso;rcases ed with ed|ed<;>first|exact absurd (ed.symm.trans (show A.not (A.eq M 10)=false by assumption)) yD|exact absurd (ed.symm.trans (show A.not (A.eq F 10)=false by assumption)) yD)|cbv)|apply bB|exact q)
 have aC:s.k=10:=by
  rcases pR (s.k=10)with e|e
  ·exact e
  ·exact absurd (.inl e) hk
 have au:t.k=10:=by
  rcases pR (t.k=10)with e|e
  ·exact e
  ·exact absurd (.inr e) hk
 have es:A.not (A.eq M 10)=false:=by rw[Y,Z,s0,aC];rfl
 have et:A.not (A.eq F 10)=false:=by rw[Y,Z,t0,au];rfl
 cbv;repeat' (first|apply bk|exact zf|(intro J;first|exact yB es J|exact yB et J|cbv)|apply bB|(refine X.call (TZ (n:=a2) he dJ λr0 w r2 hr=>?_);cbv))
 refine X.call (TZ (n:=b2) he dJ λQ R P u=>?_);cbv
 refine X.cut (λ(z:(S×D×Int×S×S×D×D×Int×S×S×D×D)×S×Int)=>⟨[(16,.int .i64 z.2.2),(15,.str z.2.1),(14,.box 6 0),(13,.int .i64 P),(12,.str R),(11,.str Q),(10,.int .i64 r2),(9,.str w),(8,.str r0),(5,.box 5 0),(4,.box 4 0)],[.box [.lst 97 de,.lst 73 dc,.mp 1,.row 9 3],.map .str 4 dm,.dead,.row 9 W wr,.box [.int .i64 M,.str a1,.str a2,.lst 29 a3,.lst 57 a4],.box [.int .i64 F,.str b1,.str b2,.lst 29 m,.lst 57 b4],.box [.str z.1.1,.lst 73 z.1.2.1,.int .i64 z.1.2.2.1,.str z.1.2.2.2.1,.str z.1.2.2.2.2.1,.lst 29 z.1.2.2.2.2.2.1,.lst 57 z.1.2.2.2.2.2.2.1,.int .i64 z.1.2.2.2.2.2.2.2.1,.str z.1.2.2.2.2.2.2.2.2.1,.str z.1.2.2.2.2.2.2.2.2.2.1,.lst 29 z.1.2.2.2.2.2.2.2.2.2.2.1,.lst 57 z.1.2.2.2.2.2.2.2.2.2.2.2]]⟩)
  (λz=>p8 (cp env a1 a2).1 z.1.1 z.1.2.1 z.1.2.2.1 z.1.2.2.2.1 z.1.2.2.2.2.1 z.1.2.2.2.2.2.1 z.1.2.2.2.2.2.2.1 z.1.2.2.2.2.2.2.2.1 z.1.2.2.2.2.2.2.2.2.1 z.1.2.2.2.2.2.2.2.2.2.1 z.1.2.2.2.2.2.2.2.2.2.2.1 z.1.2.2.2.2.2.2.2.2.2.2.2/\z.2.2=(cp env a1 a2).2.2) ?_ ?_
 ·cbv;repeat' (first|apply bk|exact zf|(intro J;cbv)|apply bB|(refine X.call (Rp he dJ λw0 c w2 w3 w4 w5 w6 w7 w8 w9 O I x1 x2 U ba o=>?_);cbv))
  all_goals (
   exact⟨((w0,c,w2,w3,w4,w5,w6,w7,w8,w9,O,I),x1,x2),⟨U,o⟩,[0,1,2,3,4,5,7],rfl,yc⟩)
 rintro⟨⟨w0,c,w2,w3,w4,w5,w6,w7,w8,w9,O,I⟩,x1,x2⟩ ⟨U,o⟩;simp only at U o;obtain⟨ps,H⟩:∃ps,ps=(cp env a1 a2).1.params:=⟨_,rfl⟩;have v:c=bt dB ps:=by rw[H];exact U.2.1
 have T:(r0,w,r2)=eZ env s.m s.n:=by rw[<- s1,<-s2];unfold eZ;exact hr
 have ab:(Q,R,P)=eZ env t.m t.n:=by rw[<- t1,<-t2];unfold eZ;exact u
 have B:x2=(cp env s.m s.n).2.2:=by rw[<- s1,<-s2];exact o
 have x:ps=(cp env s.m s.n).1.params:=by rw[<- s1,<-s2];exact H
 have hp:=Ep hk T ab B x;clear T ab B x;clear hr u U o H;have ls:A.len a3=bj s.ar.length:=gE X.a E;have lt:A.len m=bj t.ar.length:=gE X.a N;have lw:A.len c=bj ps.length:=gE X.a v;have c1:A.not (A.eq r2 0)=decide (r2≠0):=by rw[Y,Z,cn];simp
 have c2:A.not (A.eq P 0)=decide (P≠0):=by rw[Y,Z,cn];simp
 have c3:A.not (A.eq x2 0)=decide (x2≠0):=by rw[Y,Z,cn];simp
 have c4:A.not (A.seq r0 Q)=decide (r0≠Q):=by rw[Y,V,cn];simp
 have c5:A.not (A.seq w R)=decide (w≠R):=by rw[Y,V,cn];simp
 have c6:A.not (A.eq (A.len c) (A.len a3))=decide (s.ar.length≠ps.length):=by rw[Y,Z,ls,lw,cn];simp;omega
 have c7:A.not (A.eq (A.len a3) (A.len m))=decide (t.ar.length≠s.ar.length):=by rw[Y,Z,ls,lt,cn];simp;omega
 by_cases a:r2≠0\/P≠0\/x2≠0\/r0≠Q\/w≠R\/s.ar.length≠ps.length\/t.ar.length≠ps.length
 ·have q:=hn (by rw[hp,if_pos a]);cbv;repeat' (first|apply bk|exact zf|(intro J;cbv)|apply bB)
  all_goals first
   |exact q
   |(exfalso
     have g:A.not (A.eq r2 0)=false:=yA;have i:A.not (A.eq P 0)=false:=yA;have z3:A.not (A.eq x2 0)=false:=yA;have z4:A.not (A.seq r0 Q)=false:=yA;have z5:A.not (A.seq w R)=false:=yA;have z6:A.not (A.eq (A.len c) (A.len a3))=false:=yA;have z7:A.not (A.eq (A.len a3) (A.len m))=false:=yA;have g:=of_decide_eq_false (c1.symm.trans g);have i:=of_decide_eq_false (c2.symm.trans i);have z3:=of_decide_eq_false (c3.symm.trans z3);have z4:=of_decide_eq_false (c4.symm.trans z4);have z5:=of_decide_eq_false (c5.symm.trans z5);have z6:=of_decide_eq_false (c6.symm.trans z6);have z7:=of_decide_eq_false (c7.symm.trans z7);rcases a with e|e|e|e|e|e|e
     ·exact g e
     ·exact i e
     ·exact z3 e
     ·exact z4 e
     ·exact z5 e
     ·exact z6 e
     ·omega)
   |skip
 rw[if_neg a]at hp;have a:(¬ r2≠0)/\(¬ P≠0)/\(¬ x2≠0)/\(¬ r0≠Q)/\(¬ w≠R)/\(¬ s.ar.length≠ps.length)/\(¬ t.ar.length≠ps.length):=by refine⟨λe=>a ?_,λe=>a ?_,λe=>a ?_,λe=>a ?_,λe=>a ?_,λe=>a ?_,λe=>a ?_⟩<;>simp[e]
 obtain⟨d1,d2,d3,d4,d5,d6,d7⟩:=a;have c1:=c1.trans (decide_eq_false d1);have c2:=c2.trans (decide_eq_false d2);have c3:=c3.trans (decide_eq_false d3);have c4:=c4.trans (decide_eq_false d4);have c5:=c5.trans (decide_eq_false d5);have c6:=c6.trans (decide_eq_false d6);have c7:=c7.trans (decide_eq_false yO);have bc:s.ar.length=ps.length:=yO;have aZ:t.ar.length=ps.length:=yO;clear d1 d2 d3 d4 d5 d6 d7;cbv;repeat' (first|apply bk|exact zf|(intro J;first|exact yB c1 J|exact yB c2 J|exact yB c3 J|exact yB c4 J|exact yB c5 J|exact yB c6 J|exact yB c7 J|cbv)|apply bB)
 obtain⟨p,G,f⟩:=lenOf v;refine lP X (λy=>y.1<=p/\nD ps s.ar t.ar=y.2.1++nD (ps.drop y.1) (s.ar.drop y.1) (t.ar.drop y.1)/\y.2.1.length<=2*y.1/\y.2.2=bt dD y.2.1) (λy=>p-y.1) (0,[],.list []) ⟨bw _,rfl,bX _,rfl⟩ [0,1,2,3,4,5,6,7] (λ(y:Nat×List Jm×D)=>⟨[(108,.int .i64 y.1),(107,.int .i64 (A.len c)),(106,.lst 73 c),(17,.row 111 7),(14,.box 6 0),(5,.box 5 0),(4,.box 4 0)],[.box [.lst 97 de,.lst 73 dc,.mp 1,.row 9 3],.map .str 4 dm,.dead,.row 9 W wr,.box [.int .i64 M,.str a1,.str a2,.lst 29 a3,.lst 57 a4],.box [.int .i64 F,.str b1,.str b2,.lst 29 m,.lst 57 b4],.box [.str w0,.lst 73 c,.int .i64 w2,.str w3,.str w4,.lst 29 w5,.lst 57 w6,.int .i64 w7,.str w8,.str w9,.lst 29 O,.lst 57 I],.row 111 y.2.2 true]⟩) ?_;rintro⟨k,j,r⟩ ⟨ao,u,an,hr⟩;simp only at ao u an hr;cbv;constructor<;>intro h1
 ·have h5:k<ps.length:=lY X.a f h1;have h6:k<s.ar.length:=yO;have h7:k<t.ar.length:=yO;have k1:=(Es X.a v h5).2;have y1:=iS X.a E h6;have y2:=iS X.a N h7;have aB:=iX X.a v h5;have am:=iX X.a E h6;have aI:=iX X.a N h7;have aF:=jX X.a h5;have f1:A.not (A.eq (A.asInt (A.cell c (bj k) 1)) 1)=decide (ps[k].var≠1):=by rw[Y,Z,k1,cn];simp
  have f2:A.not (A.eq (A.asInt (A.cell c (bj k) 1)) 0)=decide (ps[k].var≠0):=by rw[Y,Z,k1,cn];simp
  have hB:∀row:List D,A.gr (A.add (A.len r) (A.len (A.lit [row]))) 4294967296:=λrow=>by rw[X.a,hr];simp only[SD];omega
  have w:=jk y1 y2;have r2:=jk y2 y1;have p1:∀(d:D)(l:List Jm),d=bt dD l->A.app d (A.lit [dD (s.ar[k],t.ar[k])])=bt dD (l++[(s.ar[k],t.ar[k])]):=λd l e=>by rw[X.a,e];exact cD (k:=[(s.ar[k],t.ar[k])])
  have p2:∀(d:D)(l:List Jm),d=bt dD l->A.app d (A.lit [dD (t.ar[k],s.ar[k])])=bt dD (l++[(t.ar[k],s.ar[k])]):=λd l e=>by rw[X.a,e];exact cD (k:=[(t.ar[k],s.ar[k])])
  rw[<- w]at p1;rw[<- r2]at p2;have av:∀(row:List D),A.gr (A.add (A.len (A.app r (A.lit [[.int (A.asInt (A.cell a3 (bj k) 0)),.str (A.bG (A.cell a3 (bj k) 1)),.str (A.bG (A.cell a3 (bj k) 2)),A.cell a3 (bj k) 3,A.cell a3 (bj k) 4,.int (A.asInt (A.cell m (bj k) 0)),.str (A.bG (A.cell m (bj k) 1)),.str (A.bG (A.cell m (bj k) 2)),A.cell m (bj k) 3,A.cell m (bj k) 4]]))) (A.len (A.lit [row]))) 4294967296:=λrow=>by rw[p1 r j hr,X.a];simp only[SD];omega
  rw[Qd h5 h6 h7,<-bL]at u;have a9:=OD ps[k].var s.ar[k] t.ar[k];clear h1;cbv;repeat' (first|apply bk|exact zf|(intro J;cbv)|apply bB)
  all_goals try first|exact aB|exact am|exact aI|exact aF|exact hB _|exact av _
  all_goals first
   |(have g:A.not (A.eq (A.asInt (A.cell c (bj k) 1)) 1)=true:=yA
     have i:A.not (A.eq (A.asInt (A.cell c (bj k) 1)) 0)=true:=yA;rw[f1]at g;rw[f2]at i;have ev:F9 ps[k].var s.ar[k] t.ar[k]=[(s.ar[k],t.ar[k])]++[(t.ar[k],s.ar[k])]:=by unfold F9;rw[if_pos (of_decide_eq_true g),if_pos (of_decide_eq_true i)]
     have q:=p2 _ _ (p1 _ _ hr);rw[bL,<-ev]at q;exact⟨(k+1,j++F9 ps[k].var s.ar[k] t.ar[k],_),⟨yP,u,yL,q⟩,yP,[0,1,2,3,4,5,6,7],rfl,yc⟩)
   |(have g:A.not (A.eq (A.asInt (A.cell c (bj k) 1)) 1)=true:=yA
     have i:A.not (A.eq (A.asInt (A.cell c (bj k) 1)) 0)=false:=yA;rw[f1]at g;rw[f2]at i;have ev:F9 ps[k].var s.ar[k] t.ar[k]=[(s.ar[k],t.ar[k])]:=by unfold F9;rw[if_pos (of_decide_eq_true g),if_neg (of_decide_eq_false i)];rfl
     have q:=p1 _ _ hr;rw[<- ev]at q;exact⟨(k+1,j++F9 ps[k].var s.ar[k] t.ar[k],_),⟨yP,u,yL,q⟩,yP,[0,1,2,3,4,5,6,7],rfl,yc⟩)
   |(have g:A.not (A.eq (A.asInt (A.cell c (bj k) 1)) 1)=false:=yA
     have i:A.not (A.eq (A.asInt (A.cell c (bj k) 1)) 0)=true:=yA;rw[f1]at g;rw[f2]at i;have ev:F9 ps[k].var s.ar[k] t.ar[k]=[(t.ar[k],s.ar[k])]:=by unfold F9;rw[if_neg (of_decide_eq_false g),if_pos (of_decide_eq_true i)];rfl
     have q:=p2 _ _ hr;rw[<- ev]at q;exact⟨(k+1,j++F9 ps[k].var s.ar[k] t.ar[k],_),⟨yP,u,yL,q⟩,yP,[0,1,2,3,4,5,6,7],rfl,yc⟩)
   |(have g:A.not (A.eq (A.asInt (A.cell c (bj k) 1)) 1)=false:=yA
     have i:A.not (A.eq (A.asInt (A.cell c (bj k) 1)) 0)=false:=yA;rw[f1]at g;rw[f2]at i;have ev:F9 ps[k].var s.ar[k] t.ar[k]=[]:=by unfold F9;rw[if_neg (of_decide_eq_false g),if_neg (of_decide_eq_false i)];rfl
     have q:r=bt dD (j++F9 ps[k].var s.ar[k] t.ar[k]):=by rw[ev,cz];exact hr
     exact⟨(k+1,j++F9 ps[k].var s.ar[k] t.ar[k],_),⟨yP,u,yL,q⟩,yP,[0,1,2,3,4,5,6,7],rfl,yc⟩)
   |skip
 ·have h5:k=p:=gY X.a f h1;rw[h5,G,NG (ps:=ps.drop ps.length) yS,cz]at u;have q:=h r true (mB.yes (by rw[hp,u]) hr);cbv;exact q
end Go.VC.cc
namespace Go.VC
open Go
def Di:∀(m u:Nat),u<10 ^ (m+1)->(Lib.decDigits u).length<=m+1
 |0,u,h=>by rw[Lib.decDigits,dif_pos yO];simp
 |m+1,u,h=>by
  rw[Lib.decDigits];split
  ·simp
  ·have:u/10<10 ^ (m+1):=by rw[Nat.pow_succ]at h;omega
   have:=Di m (u/10) this;rw[bp];simp;omega
def rq{n:Int}(h0:0<=n)(h:n<10000000):(tv n).length<=8:=by unfold tv Lib.itoa;rw[if_neg yO,bp];have:=Di 6 n.toNat yO;simp;omega
structure Ty.Of (u:Ty):Prop where
 me:u.me
 k:0<=u.k/\u.k<=10
 a:u.ar.length<=1048576
 f:u.fl.length<=1048576
mutual
def Gh:∀t:Ty,(∀u∈t.all,u.Of)->t.wr.length+1100000<=3300000*t.size
 | .mk k m n ar fl,h=>by have hs:=h _ (fK _);have h1:=HZ ar λu hu=>h u (by rw[Ty.all];simp[hu]);have J:=H2 fl (λu hu=>h u (by rw[Ty.all];simp[hu])) hs.me.f;have a1:=rq hs.k.1 (by have:=hs.k.2;omega);have a2:=rq (n:=(m.length:Int)) yO (by have:m.length<=1048576:=hs.me.m;omega);have a3:=rq (n:=(n.length:Int)) yO (by have:n.length<=1048576:=hs.me.n;omega);have a4:=rq (n:=(ar.length:Int)) yO (by have:ar.length<=1048576:=hs.a;omega);have a5:=rq (n:=(fl.length:Int)) yO (by have:fl.length<=1048576:=hs.f;omega);have b1:m.length<=1048576:=hs.me.m;have b2:n.length<=1048576:=hs.me.n;simp only[Ty.k]at a1;rw[Ty.wr,Ty.size];simp only[bp];omega
def PR:∀t:Fe,(∀u∈t.all,u.Of)->t.s.length<=1048576->t.wr.length<=3300000*t.size
 | .mk s t b,h,hs=>by
  have h1:=Gh t λu hu=>h u (by rw[Fe.all];exact hu);have hs:s.length<=1048576:=hs;have a1:(Lib.itoa (s.length:Int)).length<=7:=by unfold Lib.itoa;rw[if_neg yO];exact Di 6 _ yO
  have a2:(Lib.formatBool b).length<=5:=by cases b<;>decide
  rw[Fe.wr,Fe.size];simp only[bp];omega
def HZ:∀l:List Ty,(∀u∈Ty.ra l,u.Of)->(Ty.tq l).length<=3300000*Ty.lZ l
 |[],h=>by simp[Ty.tq]
 |t::l,h=>by have h1:=Gh t λu hu=>h u (by rw[Ty.ra];simp[hu]);have J:=HZ l λu hu=>h u (by rw[Ty.ra];simp[hu]);rw[Ty.tq,Ty.lZ,bp];omega
def H2:∀l:List Fe,(∀u∈Ty.rb l,u.Of)->(∀f∈l,f.s.length<=1048576)->(Ty.uV l).length<=3300000*Ty.ma l
 |[],h,_=>by simp[Ty.uV]
 |t::l,h,hs=>by have h1:=PR t (λu hu=>h u (by rw[Ty.rb];simp[hu])) (hs t yS);have J:=H2 l (λu hu=>h u (by rw[Ty.rb];simp[hu])) λf hf=>hs f (by simp[hf]);rw[Ty.uV,Ty.ma,bp];omega
end
def FO:∀(t:Ty){u:Ty},u∈t.all->u.size<=t.size:=by
 refine Ty.fV (P:=λt=>∀{u:Ty},u∈t.all->u.size<=t.size) λt b u hu=>?_;rw[all_eq]at hu;rcases bx.1 hu with rfl|hu
 ·exact bX _
 ·obtain⟨v,a,hu⟩:=cb.1 hu;have h1:=b v a hu;have J:=LG a;omega
def Ct.wr{t:Ty}(h:Ct t)(hs:t.size<=200):t.wr.length<=660000000:=by
 have key:∀u∈t.all,u.Of:=λu hu=>by
  have h1:u.size<=t.size:=FO t hu;have J:=iY u;have h3:u.eA.length=u.ar.length+u.fl.length:=by simp[Ty.eA]
  exact⟨h.me u hu,(h.rZ u hu).k,yO,yO⟩
 have:=Gh t key;omega
end Go.VC
namespace Go.VC
def rcl:Nat->PV
 |0=>.cu 1000103 [.box 0 0]
 |1=>.cu 1000104 [.box 0 0]
 |2=>.cu 1000105 [.box 0 0]
 |3=>.cu 1000106 [.box 0 0]
 |_=>.cu 1000107 [.box 0 0]
end Go.VC
namespace Go.VC.cc
open Go Go.VC Go.Proofs
def Y4:dH:={tt:=tt,n:=91,n0:=3,iU:=g49.iU,live:=[102,103,104,105,106,107,108],ox:=[11,12]}
open Classical in
def F49{env:List IF}{de:D}(he:de=bt dy env)(dJ:ey env){ctx:List Pm}{dc:D}(hc:dc=bt dB ctx)(oV:ctx.length<=4294967295){C:List Ty}(hC:Dw env ctx C):∀n,Dt env ctx C de dc n:=by
 intro n;induction n with
 |zero=>intro s t g b m dm dt V a0 a1 a2 a3 a4 b0 b1 b2 b3 b4 K P R a;rw[pH]at a;cases a
 |succ n ih=>
 intro s t g b m dm dt V a0 a1 a2 a3 a4 b0 b1 b2 b3 b4 K P R a hI o ak az hs ht h;have B:=hC.ct s P;have H:=hC.ct t R;have aU:=hC.sz s P;have a7:=hC.sz t R;have bd:=B.wr aU;have mi:=H.wr a7;obtain⟨aW,a5⟩:=hI.TR hC;simp only at aW a5;rw[pH]at a;have am:=hC.closed;refine el Y4 Tryz.func49 λA C2 L X=>?_;have Y:=fg X.a;have ap:=IV X.a;cbv;refine X.call (abZ B.le H.le (λu hu=>(B.rZ u hu).k) (λu hu=>(H.rZ u hu).k) yO hs ht λkey i=>?_);have i:key=ja (s,t):=i;have M:A.nh dm (.str key)=(fE m (ja (s,t))).isSome:=by rw[i,X.a,ak];exact lD (f:=λb=>[.bool b])
 have U:∀v,fE m (ja (s,t))=some v->A.asBool (A.eY dm (.str key) 0)=v:=λv hv=>by rw[i,X.a,ak];show Std.asBool (Std.eY (bt (fm λb=>[.bool b]) m) _ 0)=v;rw[lE hv];rfl
 have c:=o.lk (s,t);cbv;constructor<;>intro S
 ·have S:=M.symm.trans S;obtain⟨v,hv⟩:=eQ.1 S;have hg:=U v hv;rw[hv]at c
  have q:=h v m dm dt (by
   by_cases e1:(s,t)∈g
   ·rw[if_pos e1]at c;rw[if_neg (hI.d _ e1),if_pos e1]at a;cases c;cases a;rfl
   ·rw[if_neg e1]at c;by_cases e2:(s,t)∈b
    ·rw[if_pos e2]at c;rw[if_pos e2]at a;cases c;cases a;rfl
    ·rw[if_neg e2]at c;cases c) (by
   have:V.2=(g,b):=by
    by_cases e2:(s,t)∈b
    ·rw[if_pos e2]at a;cases a;rfl
    ·rw[if_neg e2]at a;by_cases e1:(s,t)∈g
     ·rw[if_pos e1]at a;cases a;rfl
     ·rw[if_neg e1,if_neg e2]at c;cases c
   rw[this];exact o) ak (by
   have:V.2=(g,b):=by
    by_cases e2:(s,t)∈b
    ·rw[if_pos e2]at a;cases a;rfl
    ·rw[if_neg e2]at a;by_cases e1:(s,t)∈g
     ·rw[if_pos e1]at a;cases a;rfl
     ·rw[if_neg e1,if_neg e2]at c;cases c
   rw[this];exact az)
  rw[<- hg]at q;clear U M;cbv;exact q
 have S:=M.symm.trans S
 have aD:(s,t)∉b:=λe=>by
  rw[if_pos e]at c;by_cases e1:(s,t)∈g
  ·rw[if_pos e1]at c;rw[c]at S;cases S
  ·rw[if_neg e1]at c;rw[c]at S;cases S
 have ai:(s,t)∉g:=λe=>by rw[if_pos e]at c;rw[c]at S;cases S
 rw[if_neg aD,if_neg ai]at a;obtain⟨dec,T⟩:∃dec,dec=pH (lK env ctx) n:=⟨_,rfl⟩;have a:gD dec (lK env ctx s t) (s,t) g (mE 1) b=some V:=by rw[T];exact a
 clear M U c S;have ao:A.lM dm (.str key) [.bool true]=bt cM (iV (ja (s,t)) true m):=by rw[i,X.a,ak];exact lB (f:=λb:Bool=>[.bool b])
 have aB:∀d m',d=bt cM m'->A.lM d (.str key) [.bool false]=bt cM (iV (ja (s,t)) false m'):=λd m' e=>by rw[i,X.a,e];exact lB (f:=λb:Bool=>[.bool b])
 have ac:A.app dt (A.lit [[.str key]])=bt cT ((g++[(s,t)]).map ja):=by rw[i,X.a,az,bS];exact cD (k:=[ja (s,t)])
 have F:A.len (A.app dt (A.lit [[.str key]]))=bj (g.length+1):=by rw[ac,X.a,dp];simp
 have N:A.sub (A.len (A.app dt (A.lit [[.str key]]))) 1=bj g.length:=by rw[F,X.a];show bj (g.length+1)-1=_;simp only[bD];omega
 have aI:A.inr .i64 (A.sub (A.len (A.app dt (A.lit [[.str key]]))) 1):=by rw[N,X.a];simp only[SD];omega
 have aX:A.gr (A.add (A.len dt) (A.len (A.lit [[.str key]]))) 4294967296:=by rw[X.a,az];simp only[SD,bA];omega
 have aY:((g++[(s,t)]).map ja).length=g.length+1:=yS
 skip
 refine p1 ?_;refine lP X (λy=>y.1<=5/\gD dec (lK env ctx s t) (s,t) g (mE (y.1+1)) y.2.1=some V/\gG C (g,y.2.1)/\(s,t)∉y.2.1/\(∃m,MK m (g++[(s,t)]) y.2.1/\y.2.2.1=bt cM m)/\y.2.2.2=bt cT ((g++[(s,t)]).map ja)) (λy=>5-y.1) (0,b,A.lM dm (.str key) [.bool true],A.app dt (A.lit [[.str key]])) ⟨yP,a,hI,aD,⟨_,o.push,ao⟩,ac⟩ [0,1,2,3,4,5] (λ(y:Nat×(List Jm×D×D))=>⟨[(59,.int .i64 y.1),(58,.agg [.cu 1000103 [.box 0 0],.cu 1000104 [.box 0 0],.cu 1000105 [.box 0 0],.cu 1000106 [.box 0 0],.cu 1000107 [.box 0 0]]),(9,.cu 102 [.box 4 0]),(8,.int .i64 (A.len (A.app dt (A.lit [[.str key]])))),(5,.str key),(3,.box 5 0),(2,.box 4 0)],[.box [.lst 97 de,.lst 73 dc,.mp 1,.row 9 3],.map .str 4 y.2.2.1,.dead,.row 9 y.2.2.2 true,.box [.box 0 0],.box [.int .i64 a0,.str a1,.str a2,.lst 29 a3,.lst 57 a4,.int .i64 b0,.str b1,.str b2,.lst 29 b3,.lst 57 b4]]⟩) ?_;clear a hI o ao ac aX aD;rintro⟨k,bl,aJ,aL⟩ ⟨hk,p,hI,aj,⟨mk,o,I⟩,O⟩;simp only at hk p hI aj o I O;obtain⟨_,aK⟩:=hI.TR hC;simp only at aK;cbv;constructor<;>intro h1
 ·have bi:k<=4:=by have h1:A.lt (bj k) 5=true:=h1;rw[ap]at h1;have:=of_decide_eq_true h1;simp only[bD]at this;omega
  have aM:A.inr .i64 (A.add (bj k) 1):=by rw[X.a];exact fN (n:=6) yO yO
  rw[tM ⟨yO,yO⟩]at p;clear h1;cbv;refine X.cut (λ(_:Unit)=>⟨[(11,rcl k),(59,.int .i64 k),(58,.agg [.cu 1000103 [.box 0 0],.cu 1000104 [.box 0 0],.cu 1000105 [.box 0 0],.cu 1000106 [.box 0 0],.cu 1000107 [.box 0 0]]),(9,.cu 102 [.box 4 0]),(8,.int .i64 (A.len (A.app dt (A.lit [[.str key]])))),(5,.str key),(3,.box 5 0),(2,.box 4 0)],[.box [.lst 97 de,.lst 73 dc,.mp 1,.row 9 3],.map .str 4 aJ,.dead,.row 9 aL true,.box [.box 0 0],.box [.int .i64 a0,.str a1,.str a2,.lst 29 a3,.lst 57 a4,.int .i64 b0,.str b1,.str b2,.lst 29 b3,.lst 57 b4]]⟩) (λ_=>True) ?_ ?_
  ·have W:k=0\/k=1\/k=2\/k=3\/k=4:=yO;rcases W with rfl|rfl|rfl|rfl|rfl
   all_goals (
    cbv;repeat' (first|apply bk|exact zf|(intro J;cbv)|apply bB)
    all_goals first
     |(exact⟨(),trivial,[0,1,2,3,4,5],rfl,yc⟩
       done)
     |skip)
   all_goals trace_state
  intro _ _;cbv;refine X.cut (λ(z:D×Bool)=>⟨[(13,.bool z.2),(12,.row 111 6),(59,.int .i64 k),(58,.agg [.cu 1000103 [.box 0 0],.cu 1000104 [.box 0 0],.cu 1000105 [.box 0 0],.cu 1000106 [.box 0 0],.cu 1000107 [.box 0 0]]),(9,.cu 102 [.box 4 0]),(8,.int .i64 (A.len (A.app dt (A.lit [[.str key]])))),(5,.str key),(3,.box 5 0),(2,.box 4 0)],[.box [.lst 97 de,.lst 73 dc,.mp 1,.row 9 3],.map .str 4 aJ,.dead,.row 9 aL true,.box [.box 0 0],.box [.int .i64 a0,.str a1,.str a2,.lst 29 a3,.lst 57 a4,.int .i64 b0,.str b1,.str b2,.lst 29 b3,.lst 57 b4],.row 111 z.1 true]⟩) (λz=>mB (lK env ctx s t (k+1)) z.1 z.2) ?_ ?_
  ·have W:k=0\/k=1\/k=2\/k=3\/k=4:=yO
   have ay:s.fl.length<=1048576/\t.fl.length<=1048576/\s.ar.length<=1048576:=by
    have J:=iY s;have h3:s.eA.length=s.ar.length+s.fl.length:=by simp[Ty.eA]
    have h4:=iY t;have h5:t.eA.length=t.ar.length+t.fl.length:=by simp[Ty.eA]
    omega
   rcases W with rfl|rfl|rfl|rfl|rfl
   ·cbv;refine X.call (abY hs ht λr b hA=>?_);cbv;exact⟨(r,b),hA,[0,1,2,7,4,5,6],rfl,yc⟩
   ·cbv;refine X.call (abX B.le H.le (B.rZ s (fK s)) (H.rZ t (fK t)) ⟨ay.1,ay.2.1⟩ hs ht λr b hA=>?_);cbv;exact⟨(r,b),hA,[0,1,2,7,4,5,6],rfl,yc⟩
   ·cbv;refine X.call (abW he dJ B.le H.le ay.2.2 hs ht λr b hA=>?_);cbv;exact⟨(r,b),hA,[0,1,2,7,4,5,6],rfl,yc⟩
   ·cbv;refine X.call (abV he dJ hc oV B.le hs ht λr b hA=>?_);cbv;exact⟨(r,b),hA,[0,1,2,7,4,5,6],rfl,yc⟩
   ·cbv;refine X.call (abU he dJ H.le hs ht λr b hA=>?_);cbv;exact⟨(r,b),hA,[0,1,2,7,4,5,6],rfl,yc⟩
  rintro⟨rl,kb⟩ ⟨ad,ax⟩;simp only at ad ax;cases E:lK env ctx s t (k+1)with
  |none=>
   rw[E]at ad;obtain rfl:kb=false:=ad;rw[Eg E]at p;cbv;repeat' (first|apply bk|exact zf|(intro J;first|exact absurd (((rfl:(false:Bool)=false)).symm.trans J) yD|cbv)|apply bB|(refine X.call (TG I O yO F yO yO λaw aC e1 e2=>?_);cbv))
   all_goals try exact aM
   refine⟨(k+1,bl,aw,aC),⟨yP,p,hI,aj,⟨mk,o,?_⟩,?_⟩,yP,[0,1,2,7,4,5],rfl,?_⟩
   ·rw[e1,fH yO];rfl
   ·rw[e2,ek yO]
   exact yc
  |some l=>
   rw[E]at ad;obtain rfl:kb=true:=ad;have aZ:=ax l E;have aH:=am s P t R (k+1) l E;obtain⟨q,aA,a0,aV⟩:=Ef E p;have ae:gG C (g++[(s,t)],bl):=hI.push P R ai aj
   have bh:l.length<=100000:=by
    have h1:=yk E;have J:=iY s;have h3:s.eA.length=s.ar.length+s.fl.length:=by simp[Ty.eA]
    have h4:=iY t;have h5:t.eA.length=t.ar.length+t.fl.length:=by simp[Ty.eA]
    omega
   have a6:=x5 (λj g b r x1 x2 x3 x4=>zP am n j g b r x1 x2 x3 (by rw[<- T];exact x4)) l _ _ q aH ae aA;obtain⟨⟨x,hx⟩,_,aG⟩:=a6;obtain⟨be,bf⟩:=aG.TR hC;rw[T]at aA;clear ax p;cbv;repeat' (first|apply bk|exact zf|(intro J;first|exact absurd (((rfl:(true:Bool)=true)).symm.trans J) yD|cbv)|apply bB)
   refine X.call (abT hC ih aZ yO aH aA ae o I O λr m' aw aC hr ar aq an=>?_);have aS:A.not false=true:=by rw[Y];rfl
   have a8:A.not true=false:=by rw[Y];rfl
   cases aa:q.1 with
   |true=>
    have af:=a0 aa;obtain rfl:r=false:=by rw[hr,aa];rfl
    have Q:=h true m' aw aC (by rw[af,aa]) (by rw[af];exact ar) aq (by rw[af];exact an);cbv;repeat' (first|apply bk|exact zf|(intro J;first|exact yB aS J|cbv)|apply bB)
    all_goals exact Q
   |false=>
    have af:=aV aa;obtain rfl:r=true:=by rw[hr,aa];rfl
    have bg:(q.2.1.map ja).length=g.length+1+x.length:=by rw[hx];simp;omega
    have bb:q.2.1.length=g.length+1+x.length:=by rw[hx];simp;omega
    cbv;repeat' (first|apply bk|exact zf|(intro J;first|exact yB a8 J|cbv)|apply bB|(refine X.call (TG aq an yO F yO yO λav au e1 e2=>?_);cbv))
    all_goals try exact aM
    all_goals (
     have aT:MK m' (g++[(s,t)]++x) q.2.2:=by rw[<- hx];exact ar
     have G:(q.2.1.map ja).drop (g.length+1)=x.map ja:=by rw[hx,bS];exact List.drop_left' yS
     have w:(q.2.1.map ja).take (g.length+1)=(g++[(s,t)]).map ja:=by rw[hx,bS];exact List.take_left' yS
     have al:gG C (g++[(s,t)]++x,q.2.2):=by rw[<- hx];exact aG
     refine⟨(k+1,q.2.2,av,au),⟨yP,af,?_,?_,⟨_,aT.del al.g al.d,by rw[e1,G]⟩,by rw[e2,w]⟩,yP,?_⟩
     ·have:gG C (g++([(s,t)]++x),q.2.2):=by rw[<- bL];exact al
      exact this.back
     ·exact al.d _ yS
     first
      |(exact⟨[0,1,2,8,4,5],rfl,yc⟩
        done)
      |trace_state)
 ·have W:k=5:=by have h1:A.lt (bj k) 5=false:=h1;rw[ap]at h1;have:=of_decide_eq_false h1;simp only[bD]at this;omega
  rw[W,so,gD]at p;cases p;clear h1;cbv;repeat' (first|apply bk|exact zf|(intro J;cbv)|apply bB|(refine X.call (TG I O yO N yO yO λav au e1 e2=>?_);cbv))
  all_goals try exact aI
  all_goals (
   have G:((g++[(s,t)]).map ja).drop g.length=[(s,t)].map ja:=by rw[bS];exact List.drop_left' yS
   have w:((g++[(s,t)]).map ja).take g.length=g.map ja:=by rw[bS];exact List.take_left' yS
   have ae:gG C (g++[(s,t)],bl):=hI.push P R ai aj;have Q:=h false _ _ au rfl ((o.del ae.g ae.d).bad ai) (aB av _ (by rw[e1,G])) (by rw[e2,w]);exact Q)
def ZM:dH:={tt:=tt,n:=20,own:=[13],live:=[49]}
def F14{env:List IF}{de:D}(he:de=bt dy env)(dJ:ey env){ctx:List Pm}{dc:D}(hc:dc=bt dB ctx)(oV:ctx.length<=4294967295){C:List Ty}(hC:Dw env ctx C){s t:Ty}(c:s∈C)(d:t∈C){a:Bool}(b:Rl env ctx C s t a)
 {e:Int}{a1 a2:S}{a3 a4:D}{f:Int}{b1 b2:S}{i g:D} (hs:cr s e a1 a2 a3 a4) (k:cr t f b1 b2 i g) {K:PV->List Ob->Prop} (h:∀r,r=a->K (.bool r) []):
 FT 14 [] [.lst 97 de,.lst 73 dc,dQ e a1 a2 a3 a4,dQ f b1 b2 i g] K:=by
 obtain⟨n,m,o⟩:=b;refine en ZM Tryz.func14 λA C L X=>?_;cbv;refine X.call (F49 he dJ hc oV hC n c d o gG.nil MK.nil rfl rfl hs k λr m' l j hr _ _ _=>?_);cbv;exact h _ hr
end Go.VC.cc
namespace Go.VC
def kL(env:List IF)(ts:List Ty):List Ty:=ts++env.flatMap cW
end Go.VC
namespace Go.VC.cc
open Go Go.VC Go.Proofs
def Zp:dH:={tt:=tt,n:=92,iU:=g27.iU,own:=[14,30,44],live:=[0]}
open Classical in
def F27{env:List IF}{de:D}(he:de=bt dy env)(dJ:ey env)(ec:∀i∈env,i.fit)(Ss:∀i∈env,(cW i).length<=4294967290){ts:List Ty}{dts:D}(ap:dts=bt ca ts)(mi:∀t∈kL env ts,Wt t)(I4:(kL env ts).length<=4000000000){K:PV->List Ob->Prop}
 (h:∀b,(b=true->∃C,FY env (kL env ts) C)->K (.bool b) []):
 FT 27 [] [.lst 97 de,.lst 29 dts] K:=by
 obtain⟨L,hL⟩:∃L,L=kL env ts:=⟨_,rfl⟩;rw[<- hL]at mi I4 h;refine FC.enter (G:=Zp) fD mixed ⟨Tryz.func27,by rfl,rfl⟩ rfl rfl rfl ?_;intro A C X1 X;have Y:=fg X.a;have Z:=oY X.a;have P:=IV X.a;have a4:∀a b:Int,A.le a b=decide (a<=b):=by rw[X.a];exactλ_ _=>rfl
 have a7:ts.length<=L.length:=by rw[hL];unfold kL;simp
 have aG:A.gr (A.add (A.len (A.lit [])) (A.len dts)) 4294967296:=by rw[X.a,ap];simp only[SD];omega
 have e0:A.app (A.lit []) dts=bt ca ts:=by rw[X.a,ap];exact cD (l:=[])
 obtain⟨I,ae,v⟩:=lenOf he;refine p1 ?_;refine lP X (λy=>y.1<=I/\y.2=bt ca (ts++(env.take y.1).flatMap cW)) (λy=>I-y.1) (0,A.app (A.lit []) dts) ⟨bw _,by simp only[e0];simp⟩ [0] (λ(y:Nat×D)=>⟨[(6,.int .i64 y.1),(5,.row 29 0),(0,.lst 97 de)],[.row 29 y.2 true]⟩) ?_;rintro⟨i,dw⟩ ⟨hi,z⟩;simp only at hi z;cbv;constructor<;>intro h1
 ·have h5:i<env.length:=lY X.a v h1;have aL:=iX X.a he h5;have aT:A.inr .i64 (A.add (bj i) 1):=by rw[X.a];exact fN h5 (by have:=dJ.1;omega)
  have k1:=ot X.a he h5
  have Q:(ts++(env.take (i+1)).flatMap cW).length<=L.length:=by
   rw[hL];unfold kL;rw[bp,bp]
   have:(env.take (i+1)).flatMap cW=(env.flatMap cW).take ((env.take (i+1)).flatMap cW).length:=by
    conv=>rhs;rw[<- cV (i+1) env,ea]
    simp
   have J:=congrArg jJ this;rw[cF]at J;omega
  have e1:∀r,r=bt ca (cW env[i])->A.app dw r=bt ca (ts++(env.take (i+1)).flatMap cW):=λr hr=>by rw[X.a,z,hr,cj h5,ea,<-bL];simp only[eJ,Aj,cz];exact cD
  have aU:∀r,r=bt ca (cW env[i])->A.gr (A.add (A.len dw) (A.len r)) 4294967296:=λr hr=>by rw[cj h5,ea]at Q;simp only[eJ,Aj,cz,bp]at Q;rw[X.a,z,hr];simp only[SD,bp];omega
  clear h1;cbv;repeat' (first|apply bk|exact zf|(intro J;cbv)|apply bB|(refine X.call (F41 k1 (ec _ (br h5)).ok (Ss _ (br h5)) λr hr=>?_);cbv))
  all_goals try first|exact aL|exact aT|exact aU _ yA
  exact⟨(i+1,_),⟨yP,e1 _ hr⟩,yP,[0],rfl,yc⟩
 have h5:i=I:=gY X.a v h1;have z:dw=bt ca L:=by rw[z,h5,ae,bz,hL];rfl
 clear h1 h5 e0 aG;cbv;refine lP X (λy=>Tm env L y.1.1 y.1.2/\y.2.1=bt ca y.1.2/\y.2.2=bt ca y.1.1) (λy=>RL L y.1.1 y.1.2) (([],L),dw,A.lit []) ⟨Tm.start mi,z,yX⟩ [0,1] (λ(y:(List Ty×List Ty)×D×D)=>⟨[(7,.row 29 1),(5,.row 29 0),(0,.lst 97 de)],[.row 29 y.2.1 true,.row 29 y.2.2 true]⟩) ?_;clear z hi;rintro⟨⟨w,W⟩,c,H⟩ ⟨hT,hW,hK⟩;simp only at hT hW hK;have aS:=hT.wl;have a5:=hT.len;obtain⟨U,ac,d⟩:=lenOf hW;obtain⟨B,M,g⟩:=lenOf hK;cbv;constructor<;>intro h1
 ·have O:0<W.length:=lY X.a d h1;obtain⟨p,t,rfl⟩:∃p t,W=p++[t]:=⟨W.dropLast,W.getLast (by intro e;rw[e]at O;simp at O),(B3 _).symm⟩;have PN:=hT.wt t yS;have E:U=p.length+1:=by rw[ac];simp
  have s:A.sub (A.len c) 1=bj p.length:=by
   have:A.len c=bj (p.length+1):=by rw[X.a,d,E]
   rw[this,X.a];show bj (p.length+1)-1=_;simp only[bD];omega
  have aY:A.inr .i64 (A.sub (A.len c) 1):=by rw[s,X.a];simp only[SD];omega
  have aV:A.idx (A.sub (A.len c) 1) (A.len c):=by rw[s,X.a,hW];exact cY yS
  have aW:A.idx 0 (A.len c):=by rw[X.a,hW];exact cY (i:=0) O
  have aZ:A.gr (A.sub (A.len c) 1) (A.len c):=by rw[s,X.a,d];simp only[SD];omega
  have x:A.part c 0 (A.sub (A.len c) 1)=bt ca p:=by rw[s,X.a,hW];have:=o9 (f:=ca) (l:=p++[t]) (a:=0) (b:=p.length);simpa using this
  have kt:cr t (A.asInt (A.cell c (A.sub (A.len c) 1) 0)) (A.bG (A.cell c (A.sub (A.len c) 1) 1)) (A.bG (A.cell c (A.sub (A.len c) 1) 2)) (A.cell c (A.sub (A.len c) 1) 3) (A.cell c (A.sub (A.len c) 1) 4):=by rw[s];have:=iS X.a hW (i:=p.length) yS;simpa using this
  clear h1;have ax:∀u∈w,Ty.le 4294967295 u:=hT.Ym;refine p1 ?_;refine lP X (λy=>y.1<=B/\y.2=decide (t∈w.take y.1)) (λy=>B-y.1) (0,false) ⟨bw _,yS⟩ [0,1,2] (λ(y:Nat×Bool)=>⟨[(10,.int .i64 y.1),(9,.bool y.2),(8,.box 2 0),(7,.row 29 1),(5,.row 29 0),(0,.lst 97 de)],[.row 29 (A.part c 0 (A.sub (A.len c) 1)) true,.row 29 H true,.box [.int .i64 (A.asInt (A.cell c (A.sub (A.len c) 1) 0)),.str (A.bG (A.cell c (A.sub (A.len c) 1) 1)),.str (A.bG (A.cell c (A.sub (A.len c) 1) 2)),.lst 29 (A.cell c (A.sub (A.len c) 1) 3),.lst 57 (A.cell c (A.sub (A.len c) 1) 4)]]⟩) ?_;rintro⟨i,sn⟩ ⟨hi,F⟩;simp only at hi F;have ak:sn=true->Tm env L w p:=λe=>hT.seen (by rw[F]at e;exact tl (of_decide_eq_true e))
  have aw:¬A.lt (bj i) (A.len H)=true->sn=false->t∉w:=λe1 e2=>by
   have h5:i=B:=by
    by_cases h6:i<B
    ·exact absurd (by rw[P,X.a,g];simpa using h6) e1
    ·omega
   rw[h5,M,bz]at F;rw[e2]at F;exact of_decide_eq_false F.symm
  have af:A.lt (bj i) (A.len H)=true->i<w.length:=λe=>by rw[P,X.a,g]at e;have:=of_decide_eq_true e;simp only[bD]at this;omega
  have E:A.not false=true:=by rw[Y];rfl
  have T:A.not true=false:=by rw[Y];rfl
  cases sn with
  |true=>
   have aQ:=ak rfl;cbv;repeat' (first|apply bk|exact zf|(intro J;first|exact yB E J|exact yB T J|exact absurd (((rfl:(true:Bool)=true)).symm.trans J) yD|cbv)|apply bB)
   all_goals (
    exact⟨((w,p),A.part c 0 (A.sub (A.len c) 1),H),⟨aQ,x,hK⟩,Ll,[0,1],rfl,yc⟩)
  |false=>
   have av:A.lt (bj i) (A.len H)=true->A.idx (bj i) (A.len H):=λe=>by rw[X.a,hK];exact cY (af e)
   have ao:A.lt (bj i) (A.len H)=true->A.inr .i64 (A.add (bj i) 1):=λe=>by have:=af e;rw[X.a];exact fN (n:=w.length) this yO
   by_cases j:A.lt (bj i) (A.len H)=true
   ·have h5:=af j;have k1:=iS X.a hK h5;have l1:=ax _ (br h5);have e9:=av j;have kj:=ao j;cbv;repeat' (first|apply bk|exact zf|(intro J;first|exact yB E J|exact yB T J|exact yB j J|exact absurd (((rfl:(false:Bool)=false)).symm.trans J) yD|cbv)|apply bB|(refine X.call (F62 _ l1 k1 kt λb hb=>?_);cbv))
    all_goals try first|exact e9|exact kj
    refine⟨(i+1,b),⟨yP,?_⟩,yP,[0,1,2],rfl,?_⟩
    ·rw[hb,cj h5,cn,decide_eq_true_iff,fL];have aK:t∉w.take i:=of_decide_eq_false F.symm;constructor
     ·intro e;exact cP _ (by simp[e])
     ·intro e;rcases bE.1 e with e|e
      ·exact absurd e aK
      ·simp at e;exact e.symm
    exact yc
   ·have a1:=aw j rfl;have V:A.lt (bj i) (A.len H)=false:=yU j;have aj:A.len H=bj w.length:=by rw[X.a,g,M]
    have m:A.eq (A.len H) 120=decide (w.length=120):=by rw[Z,aj,cn];simp;omega
    have ar:∀r:Int,A.lt 200 r=decide (200<r):=λr=>P _ _;have an:=h false (λe=>yC e);have aX:p.length<=4100000000:=by simp only[bp,bI,bZ]at aS;omega
    have dN:[D.int (A.asInt (A.cell c (A.sub (A.len c) 1) 0)),.str (A.bG (A.cell c (A.sub (A.len c) 1) 1)),.str (A.bG (A.cell c (A.sub (A.len c) 1) 2)),A.cell c (A.sub (A.len c) 1) 3,A.cell c (A.sub (A.len c) 1) 4]=ca t:=by obtain⟨f0,f1,f2,f3,f4⟩:=kt;rw[f0,f1,f2,f3,f4,dn]
    have eK:A.app H (A.lit [[D.int (A.asInt (A.cell c (A.sub (A.len c) 1) 0)),.str (A.bG (A.cell c (A.sub (A.len c) 1) 1)),.str (A.bG (A.cell c (A.sub (A.len c) 1) 2)),A.cell c (A.sub (A.len c) 1) 3,A.cell c (A.sub (A.len c) 1) 4]])=bt ca (w++[t]):=by rw[dN,X.a,hK];exact cD (k:=[t])
    have bK:A.gr (A.add (A.len H) (A.len (A.lit [[D.int (A.asInt (A.cell c (A.sub (A.len c) 1) 0)),.str (A.bG (A.cell c (A.sub (A.len c) 1) 1)),.str (A.bG (A.cell c (A.sub (A.len c) 1) 2)),A.cell c (A.sub (A.len c) 1) 3,A.cell c (A.sub (A.len c) 1) 4]]))) 4294967296:=by rw[aj,X.a];simp only[SD];omega
    by_cases N:w.length=120
    ·have m:=m.trans (decide_eq_true N);cbv;repeat' (first|apply bk|exact zf|(intro J;first|exact yB E J|exact yB T J|exact yB V J|exact yB m J|exact absurd (((rfl:(false:Bool)=false)).symm.trans J) yD|cbv)|apply bB)
     all_goals exact an
    ·have m:=m.trans (decide_eq_false N);have a6:=iY t;have a3:=PN.sz;have o:w.length<120:=yO;have am:∀r:Int,r=(t.size:Int)->A.lt 200 r=false->t.size<=200:=λr e1 e2=>by rw[ar,e1]at e2;have:=of_decide_eq_false e2;omega
     have eW:∀q,q=bt ca t.eA->A.app (A.part c 0 (A.sub (A.len c) 1)) q=bt ca (p++t.eA):=λq hq=>by rw[x,X.a,hq];exact cD
     have bW:∀q,q=bt ca t.eA->t.size<=200->A.gr (A.add (A.len (A.part c 0 (A.sub (A.len c) 1))) (A.len q)) 4294967296:=λq hq hz=>by rw[x,X.a,hq];simp only[SD];omega
     have aR:∀q aq ai,q=bt ca t.eA->t.size<=200->A.gr (A.add (A.len (A.app (A.part c 0 (A.sub (A.len c) 1)) q)) (A.len (A.lit [aq,ai]))) 4294967296:=λq r1 r2 hq hz=>by rw[eW q hq,X.a];simp only[SD,bp];omega
     cbv;repeat' (first|apply bk|exact zf|(intro J;first|exact yB E J|exact yB T J|exact yB V J|exact yB m J|exact absurd (((rfl:(false:Bool)=false)).symm.trans J) yD|cbv)|apply bB|(refine X.call (F25 t PN.le PN.sz kt λr hr=>?_);cbv)|(refine X.call (F61 PN.le yO kt λq hq=>?_);cbv)|(refine X.call (F63 he dJ PN.le kt λu0 u1 u2 u3 u4 g0 g1 g2 g3 g4 r2 aE aN ah=>?_);cbv))
     all_goals try first|exact an|exact bK
     all_goals (
      have hz:t.size<=200:=am r hr yA
      first
       |exact bW _ yA hz
       |exact aR _ _ _ yA hz
       |(have S:A.eq r2 0=true:=yA
         have S:(cG env t).2.2=0:=by rw[Z,ah]at S;simpa using S
         have R:=hT.new ec o hz;have eS:oI env t=t.eA++[(cG env t).1,(cG env t).2.1]:=by unfold oI;rw[if_pos S]
         refine⟨((w++[t],p++oI env t),A.app (A.app (A.part c 0 (A.sub (A.len c) 1)) q) (A.lit [[.int u0,.str u1,.str u2,u3,u4],[.int g0,.str g1,.str g2,g3,g4]]),_),⟨R,?_,eK⟩,Ij R o,[0,1],rfl,?_⟩
         ·show A.app (A.app (A.part c 0 (A.sub (A.len c) 1)) q) (A.lit [[.int u0,.str u1,.str u2,u3,u4],[.int g0,.str g1,.str g2,g3,g4]])=bt ca (p++oI env t);have f1:[D.int u0,.str u1,.str u2,u3,u4]=ca (cG env t).1:=by obtain⟨f0,f1,f2,f3,f4⟩:=aE;rw[f0,f1,f2,f3,f4,dn]
          have f2:[D.int g0,.str g1,.str g2,g3,g4]=ca (cG env t).2.1:=by obtain⟨f0,f1,f2,f3,f4⟩:=aN;rw[f0,f1,f2,f3,f4,dn]
          rw[eW q hq,f1,f2,X.a,eS,<-bL];exact cD (k:=[(cG env t).1,(cG env t).2.1])
         exact yc)
       |(have S:A.eq r2 0=false:=yA
         have S:¬(cG env t).2.2=0:=by rw[Z,ah]at S;simpa using S
         have R:=hT.new ec o hz;have eS:oI env t=t.eA:=by unfold oI;rw[if_neg S,cz]
         refine⟨((w++[t],p++oI env t),A.app (A.part c 0 (A.sub (A.len c) 1)) q,_),⟨R,?_,eK⟩,Ij R o,[0,1],rfl,?_⟩
         ·show A.app (A.part c 0 (A.sub (A.len c) 1)) q=bt ca (p++oI env t);rw[eW q hq,eS]
         exact yc)
       |trace_state)
 ·have aH:W=[]:=by
   have:U=0:=by obtain rfl:=X.a;simp only[d,SD]at h1;omega
   exact cm yO
  subst aH;have q:=h true (λ_=>⟨w,hT.fin⟩);cbv;exact q
end Go.VC.cc
namespace Go.VC
open Classical
open Go.VC.cc
section
variable {env:List IF}{C:List Ty}{i:IF}{x:TE}{ctx:List Pm}{s t:Ty}{p:S}{l:List TE}
noncomputable def MQ(env:List IF)(ctx:List Pm)(s t:Ty):Bool:=if h:∃b,Rl env ctx [] s t b then h.choose else false
def ue(hC:Dw env ctx C)(hs:s∈C)(c:t∈C):Rl env ctx C s t (MQ env ctx s t):=by
 have a:∃b,Rl env ctx [] s t b:=by obtain⟨r,hr,_⟩:=Jc hC.closed (jL C []+1) (s,t) [] [] hs c gG.nil (Nat.lt_succ_self _);exact⟨r.1,_,r.2,hr⟩
 unfold MQ;rw[dif_pos a];exact a.choose_spec
def Ev(ctx:List Pm):List Pm:=ctx.map λp=>⟨p.name,0,p.bound⟩
def FH(env:List IF)(ctx:List Pm)(t:Ty):jG env (Ev ctx) t=jG env ctx t:=by
 unfold jG Ev
 have:∀(l:List Pm),((l.map λp=>(⟨p.name,0,p.bound⟩:Pm)).find? λp=>p.name==t.n).map Pm.bound=(l.find? λp=>p.name==t.n).map Pm.bound:=by
  intro l;induction l with
  |nil=>rfl
  |cons p l a=>
   rw[bF,cI,cI];show (match p.name==t.n with|true=>_|false=>_:Option Pm).map Pm.bound=_;cases p.name==t.n with
   |true=>rfl
   |false=>exact a
 rw[this]
def JZ(env:List IF)(ctx:List Pm):lK env (Ev ctx)=lK env ctx:=by funext s t r;unfold lK tS;rw[FH]
def Rl.op{b:Bool}(h:Rl env ctx C s t b):Rl env (Ev ctx) C s t b:=by unfold Rl;rw[JZ];exact h
def Dw.op(h:Dw env ctx C):Dw env (Ev ctx) C:=⟨h.len,h.ct,h.sz,h.eA,h.gr,λp a=>by obtain⟨q,b,rfl⟩:=bH.1 a;exact h.ctx q b⟩
noncomputable def vb(env:List IF)(p:S):List TE->Option (S×S×Int)
 |[]=>none
 |x::l=>if MQ env x.params x.lower x.upper=false then some (p,x.name,13)else vb env p l
noncomputable def xM(env:List IF):List IF->Option (S×S×Int)
 |[]=>none
 |i::l=>match vb env i.path i.types with
  |some r=>some r
  |none=>xM env l
noncomputable def sG(env:List IF):S×S×Int:=if(qf env).2≠0 then((qf env).1,[],(qf env).2)else(xM env env).getD ([],[],0)
def wu:∀{k:Nat}{l:List Pm},mV mM k l=0->∀p∈l,p.bound=Ty.zero
 |_,[],_,p,a=>yE a
 |k,q::l,h,p,a=>by
  rw[mV]at h;split at h
  ·cases h
  ·split at h
   ·cases h
   ·rename_i b;rcases bx.1 a with rfl|a
    ·unfold mM at b;simp only[fS,not_or,Am]at b;exact fL.1 (yU b.2)
    ·exact wu h p a
def FY.Rf(h:FY env (kL env []) C)(g:ml env)(ec:∀i∈env,i.fit)(m:i∈env)(n:x∈i.types):∃d,Dw env x.params d/\x.lower∈d/\x.upper∈d:=by
 obtain⟨a,b⟩:=Ct.ty g ec m n;obtain⟨_,_,_,_,_,f⟩:=qq ((g.ok i m).t x n)
 have hz:∀p∈x.params,p.bound=Ty.zero:=by
  unfold jW at f;split at f
  ·cases f
  ·exact wu f
 have e:∀t∈eL x,t∈kL env []:=λt c=>by unfold kL;rw[jd];refine cb.2 ⟨i,m,?_⟩;unfold cW;exact cy _ (cb.2 ⟨x,n,c⟩)
 obtain⟨d,h1,J⟩:=h.clo (ctx:=x.params) g ec (k:=eL x) (λt c=>⟨e t c,by
  unfold eL at c;rcases bE.1 c with c|c
  ·simp at c;rcases c with rfl|rfl
   ·exact a
   ·exact b
  ·obtain⟨p,j,rfl⟩:=bH.1 c;rw[hz p j];exact Ct.zero⟩) (λp j=>by unfold eL;exact cP _ (bH.2 ⟨p,j,rfl⟩))
 exact⟨d,h1,J _ (by simp[eL]),J _ (by simp[eL])⟩
def PY(b:ml env)(c:i∈env)(d:x∈i.types):x.params.length<=8:=by
 obtain⟨_,_,_,_,_,a⟩:=qq ((b.ok i c).t x d);unfold jW at a;split at a
 ·cases a
 ·omega
def xE(h:(qf env).2≠0):sG env=((qf env).1,[],(qf env).2):=by unfold sG;rw[if_pos h]
def Ju(h:(qf env).2=0):sG env=(xM env env).getD ([],[],0):=by unfold sG;rw[if_neg (yU h)]
def OM(h:MQ env x.params x.lower x.upper=true):vb env p (x::l)=vb env p l:=by rw[vb,if_neg (by rw[h];decide)]
def Lt(h:MQ env x.params x.lower x.upper=false):vb env p (x::l)=some (p,x.name,13):=by rw[vb,if_pos h]
def Lu{l:List IF}{r:S×S×Int}(h:vb env i.path i.types=some r):xM env (i::l)=some r:=by rw[xM,h]
def OO{l:List IF}(h:vb env i.path i.types=none):xM env (i::l)=xM env l:=by rw[xM,h]
end
end Go.VC
namespace Go.VC.cc
open Go Go.VC Go.Proofs
def F87{env:List IF}{de:D}(he:de=bt dy env)(dJ:ey env)(ec:∀i∈env,i.fit)(mi:(env.map IF.wt).sum<=268435456)(hT:(qf env).2=0->∃C,FY env (kL env []) C){K:PV->List Ob->Prop}
 (h:∀(a b:S)(r:Int),(a,b,r)=sG env->K (.tup [.str a,.str b,.int .i64 r]) []):
 FT 87 [] [.lst 97 de] K:=by
 refine en g87 Tryz.func87 λA C L X=>?_;have Y:=fg X.a;have Z:=oY X.a;have o:=IV X.a;obtain⟨d,t,c⟩:=lenOf he;cbv;refine X.call (abG he dJ ec mi λs r B=>?_);have w:A.not (A.eq r 0)=decide (¬ (qf env).2=0):=by rw[Y,Z,<-B,cn];simp
 by_cases e:(qf env).2=0
 rotate_left
 ·have w:=w.trans (decide_eq_true e);have q:=h s [] r (by rw[xE e,<-B]);cbv;repeat' (first|apply bk|exact zf|(intro J;first|exact yB w J|cbv)|apply bB)
  exact q
 have w:=w.trans (decide_eq_false (λf=>f e));have U:=zH e;obtain⟨C0,O⟩:=hT e;rw[Ju e]at h;cbv;repeat' (first|apply bk|exact zf|(intro J;first|exact yB w J|cbv)|apply bB)
 refine lP X (λi=>i<=d/\xM env env=xM env (env.drop i)) (λi=>d-i) 0 ⟨bw _,rfl⟩ [] (λ(i:Nat)=>⟨[(22,.int .i64 i),(21,.int .i64 (A.len de)),(20,.lst 97 de),(0,.lst 97 de)],[]⟩) ?_;rintro i ⟨hi,I⟩;cbv;constructor<;>intro h1
 ·have h5:i<env.length:=lY X.a c h1;obtain⟨x0,x1,_⟩:=ot X.a he h5;have v:=iX X.a he h5;have P:A.inr .i64 (A.add (bj i) 1):=by rw[X.a];exact fN h5 (by have:=dJ.1;omega)
  have u:=br h5;rw[bJ h5]at I;obtain⟨dT,rN⟩:∃dT,dT=A.cell de (bj i) 1:=⟨_,rfl⟩;have g:A.cell de (bj i) 1=bt fZ env[i].types:=x1;obtain⟨n,p⟩:∃n,n=env[i].types.length:=⟨_,rfl⟩;have j:A.len (A.cell de (bj i) 1)=bj n:=by rw[g,X.a,dp,p];rfl
  have aa:n<=4294967295:=by rw[p];exact(dJ.2 _ u).nt
  clear h1;refine p1 ?_;refine lP X (λk=>k<=n/\vb env env[i].path env[i].types=vb env env[i].path (env[i].types.drop k)) (λk=>n-k) 0 ⟨bw _,rfl⟩ [0] (λ(k:Nat)=>⟨[(29,.int .i64 k),(28,.int .i64 (A.len (A.cell de (bj i) 1))),(27,.lst 136 (A.cell de (bj i) 1)),(22,.int .i64 i),(21,.int .i64 (A.len de)),(20,.lst 97 de),(8,.box 0 0),(0,.lst 97 de)],[.box [.str (A.bG (A.cell de (bj i) 0)),.lst 136 (A.cell de (bj i) 1),.lst 91 (A.cell de (bj i) 2),.lst 210 (A.cell de (bj i) 3),.lst 213 (A.cell de (bj i) 4)]]⟩) ?_;rintro k ⟨hk,l⟩;have R:A.lt (bj k) (A.len (A.cell de (bj i) 1))=true->k<env[i].types.length:=λz=>by rw[j,o]at z;have:=of_decide_eq_true z;simp only[bD]at this;omega
  by_cases dA:A.lt (bj k) (A.len (A.cell de (bj i) 1))=true
  ·have h6:=R dA;obtain⟨y0,W,y2,y3⟩:=mQ X.a g h6;have m:A.idx (bj k) (A.len (A.cell de (bj i) 1)):=by rw[g,X.a];exact cY h6
   have H:=jX X.a h6;have x:=br h6;obtain⟨C1,G,F,y⟩:=O.Rf U ec u x;have V:=PY U u x;rw[bJ h6]at l;have T:=ue G F y;cbv;repeat' (first|apply bk|exact zf|(intro J;first|exact yB dA J|cbv)|apply bB)
   all_goals try first|exact v|exact m
   refine X.call (F14 he dJ W yO G F y T y2 y3 λb hb=>?_);have hb:b=MQ env env[i].types[k].params env[i].types[k].lower env[i].types[k].upper:=hb;have Q:MQ env env[i].types[k].params env[i].types[k].lower env[i].types[k].upper=false->K (.tup [.str (A.bG (A.cell de (bj i) 0)),.str (A.bG (A.cell (A.cell de (bj i) 1) (bj k) 0)),.int .i64 13]) []:=λz=>by rw[x0,y0];exact h _ _ _ (by rw[I,Lu (l.trans (Lt z))];rfl)
   cbv;repeat' (first|apply bk|exact zf|(intro J;cbv)|apply bB)
   all_goals try first|exact v|exact m|exact H
   all_goals first
    |(have z:A.not b=true:=yA
      have z:MQ env env[i].types[k].params env[i].types[k].lower env[i].types[k].upper=false:=by rw[Y,hb]at z;simpa using z
      exact Q z)
    |(have z:A.not b=false:=yA
      have z:MQ env env[i].types[k].params env[i].types[k].lower env[i].types[k].upper=true:=by rw[Y,hb]at z;simpa using z
      exact⟨k+1,⟨yO,l.trans (OM z)⟩,yO,[0],rfl,yc⟩)
    |trace_state
  ·have E:A.lt (bj k) (A.len (A.cell de (bj i) 1))=false:=yU dA
   have M:k=n:=by
    by_cases h6:k<n
    ·exact absurd (by rw[j,o];simpa using h6) dA
    ·omega
   have N:vb env env[i].path env[i].types=none:=by rw[l,M,p,ch,vb]
   cbv;repeat' (first|apply bk|exact zf|(intro J;first|exact yB E J|cbv)|apply bB)
   all_goals try first|exact v|exact P
   exact⟨i+1,⟨yO,I.trans (OO N)⟩,yO,[],rfl,yc⟩
 ·have h5:i=d:=gY X.a c h1;have q:=h [] [] 0 (by rw[I,h5,t,ch,xM];rfl);cbv;exact q
end Go.VC.cc
