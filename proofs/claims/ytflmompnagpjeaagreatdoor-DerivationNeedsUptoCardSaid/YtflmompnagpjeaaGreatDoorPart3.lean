/- Part 3 of the common texts. -/
import Derived.Laws.StructEq
import Derived.ChangeArms
import Derived.ChangeShapes
import Derived.ChangeSame
import Derived.Carry
import Derived.JoinedCond
import Derived.Lib.ItoaNum
import Derived.Test.YtflmompnagpjeaaGreatDoorProg
import Derived.Sort.Walk0
import Derived.Shelf.GgSortFunc.InsertionK
import Derived.Shelf.SlSortCmp.Kit1
import Derived.Shelf.Strings.Builder1
import Derived.Test.YtflmompnagpjeaaGreatDoorPart2
set_option linter.all false
set_option maxRecDepth 100000
set_option maxHeartbeats 16000000
open And renaming intro→bq
open Array renaming ext→PG,ext'→fL,ext_getElem?→Nt,extract_eq_self_of_le→jn,foldl_toList→vF,getD_eq_getD_getElem?→bO,getElem?_append→Il,getElem?_append_left→gM,getElem?_eq_getElem→du,getElem?_eq_none→cC,getElem?_eq_some_iff→dE,getElem?_modify→jm,getElem?_pop→vE,getElem?_push→JZ,getElem?_setIfInBounds→jf,getElem?_setIfInBounds_ne→cE,getElem?_setIfInBounds_self_of_lt→cN,length_toList→ey,mapM_eq_mapM_toList→oT,replicate→fj,size_map→Cy
open Bool renaming and_eq_true→bw,false_eq_true→cv,not_eq_true→zz,not_eq_true'→ib,not_false→tg,not_true→E9,or_eq_false_iff→JW,or_eq_true→fU,true_and→ka
open Classical renaming skolem→JN
open ForInStep renaming yield→pT
open Int renaming eq_ofNat_of_zero_le→Ij,natCast_nonneg→dS,ofNat→bk,ofNat_eq_natCast→bz,ofNat_lt→lz,toNat_natCast→ej
open List renaming all_append→rX,all_eq_false→pE,all_eq_true→eF,any_cons→E8,any_eq_false→PE,any_eq_true→eE,append_nil→cA,cons_append→dP,drop_eq_getElem_cons→bF,drop_eq_nil_of_le→fo,eq_nil_iff_forall_not_mem→gf,eq_nil_of_length_eq_zero→bY,findIdx?_eq_none_iff→oW,findIdx?_eq_some_iff_getElem→kN,getD→cc,getD_eq_getElem?_getD→fN,getElem?_append_left→bS,getElem?_append_right→cp,getElem?_drop→eM,getElem?_eq_getElem→bx,getElem?_eq_none→ca,getElem?_eq_some_iff→dx,getElem?_inj→PC,getElem?_map→cu,getElem?_of_mem→fF,getElem?_set_ne→bU,getElem?_set_self→bZ,getElem?_take→n5,getElem?_take_of_lt→cK,getElem_map→zy,getElem_mem→bu,length→iS,length_append→bt,length_cons→bM,length_drop→jO,length_map→bL,length_nil→bX,length_pos_iff→gx,length_singleton→dJ,length_take→cJ,mapM_cons→CD,map_cons→bJ,map_drop→E6,map_map→ia,map_take→vB,mem_cons→bN,mem_cons_of_mem→jC,mem_map→bP,mem_of_getElem?→fi,mem_range→te,mem_singleton→df,mem_take_iff_getElem→jU,nil_append→jg,nodup_append→cV,nodup_cons→cw,nodup_nil→n2,range→fb,range_eq_range'→JT,size_toArray→PA,sum_cons→cm,take_append_drop→cX,take_succ_eq_append_getElem→k8
open List.cons renaming injEq→gN
open Nat renaming add_assoc→eY,add_mul→c9,add_zero→iq,div_add_mod→Cw,div_eq_of_lt→qX,div_lt_iff_lt_mul→s8,eq_zero_or_pos→wA,le_refl→cg,le_succ→pQ,le_trans→bQ,lor→je,lt_or_ge→bV,mod_eq_of_lt→qW,mod_lt→ET,mul_add_div→sq,mul_add_mod→so,mul_comm→gI,mul_le_mul_right→cW,mul_one→pP,one_mul→pN,shiftLeft→ep,strongRecOn→Cu,testBit_two_pow→Nz,zero_add→dW,zero_le→bB
open Ne renaming symm→dy
open Option renaming bind_eq_some_iff→kG,isSome_iff_exists→eQ,isSome_none→nH,map_eq_some_iff→p6,map_some→cr
open Option.some renaming inj→iH,injEq→cz
open PUnit renaming unit→kF
open Prod.mk renaming injEq→gb
namespace Go.VC
section
variable [Inhabited pB]
open Go
section
variable {P:Program}{tt:TypeId->Option TI}{G:ea}{B:jc}{E:List RI}{Pp:fE}{objs:List Ob}{w:World}{st:St}{a:Act}
variable {ops:Array Oper}{d:D}{Q:Exit->Act->World->Prop}{r:Option Nat}
def mK(L:Nat):∀(r:List (Nat×Nat×Oper))(j:Nat)(o:Oper),(j,o)∈jk L r↔∃m,(j,m,o)∈r/\zI m L=true
 |[],j,o=>by simp[jk]
 |(i,m,x)::r,j,o=>by
  have c:=mK L r j o;simp only[jk];cases hm:zI m L with
  |true=>
   simp only[cond_true,bN,gb,c];constructor
   ·rintro(⟨rfl,rfl⟩|⟨m',h,b⟩)
    ·exact⟨m,.inl ⟨rfl,rfl,rfl⟩,hm⟩
    ·exact⟨m',.inr h,b⟩
   ·rintro⟨m',⟨rfl,rfl,rfl⟩|h,b⟩
    ·exact .inl ⟨rfl,rfl⟩
    ·exact .inr ⟨m',h,b⟩
  |false=>
   simp only[cond_false,bN,gb,c];constructor
   ·rintro⟨m',h,b⟩;exact⟨m',.inr h,b⟩
   ·rintro⟨m',⟨rfl,rfl,rfl⟩|h,b⟩
    ·rw[hm]at b;cases b
    ·exact⟨m',h,b⟩
def Cj(L i j:Nat):(je L (ep 1 i)).testBit j=(L.testBit j||decide (i=j)):=by show (L ||| (1 <<< i)).testBit j=_;rw[Nat.testBit_or,Nat.shiftLeft_eq,pN,Nz]
def AG(l:List Edge)(k:Nat):(tS l).testBit k=l.any (λe=>nQ e&&decide (e.on=k)):=by
 induction l with
 |nil=>simp[tS]
 |cons e l b=>
  simp only[tS,E8];cases hb:nQ e with
  |true=>simp only[cond_true,ka];show ((1 <<< e.on) ||| tS l).testBit k=_;rw[Nat.testBit_or,Nat.shiftLeft_eq,pN,Nz,b]
  |false=>simpa using b
def D5(m L:Nat):zI m L=true↔∀k,m.testBit k=true->L.testBit k=true:=by
 unfold zI;constructor
 ·intro h k hk;have h:=cR h;have h2:(m &&& L).testBit k=true:=by show (Nat.land m L).testBit k=true;rw[h];exact hk
  rw[Nat.testBit_and]at h2;simp only[bw]at h2;exact h2.2
 ·intro h
  have:Nat.land m L=m:=by
   apply Nat.eq_of_testBit_eq;intro k;show (m &&& L).testBit k=_;rw[Nat.testBit_and];cases hm:m.testBit k with
   |false=>rfl
   |true=>rw[h k hm];rfl
  rw[this];exact jq m
def mj(e:Edge):Region.binds .any e=nQ e:=by unfold Region.binds nQ;cases e.ground<;>rfl
structure lM (all:Array Oper) (rest:List (Nat×Nat×Oper)) (L:Nat) (listed:Array Bool):Prop where
 size:listed.size=all.size
 bit:∀i,i<all.size->listed.getD i true=L.testBit i
 low:∀i,L.testBit i=true->i<all.size
 mem:∀i m o,(i,m,o)∈rest↔all[i]? =some o/\L.testBit i=false/\m=tS o.after.toList
 nodup:(rest.map (·.1)).Nodup
 cl:∀j o,all[j]? =some o->L.testBit j=true->∀e∈o.after,Region.binds .any e=true->L.testBit e.on=true
def lM.get{all:Array Oper}{rest:List (Nat×Nat×Oper)}{L:Nat}{listed:Array Bool}(h:lM all rest L listed)(i:Nat):listed.getD i false=L.testBit i:=by
 by_cases b:i<all.size
 ·have:=h.bit i b;rw[bO]at this ⊢;have hs:i<listed.size:=by rw[h.size];exact b
  simp[hs]at this ⊢;exact this
 ·have:L.testBit i=false:=by
   cases hm:L.testBit i with
   |false=>rfl
   |true=>exact absurd (h.low i hm) b
  rw[this,bO,cC (by rw[h.size];omega)];rfl
def ou{all:Array Oper}{rest:List (Nat×Nat×Oper)}{L:Nat}{listed:Array Bool}(h:lM all rest L listed)(j:Nat):j∈Region.ready .any all listed↔∃o,(j,o)∈jk L rest:=by
 rw[mem_ready];constructor
 ·rintro⟨h1,o,b,h2⟩;have c:j<all.size:=(dE.1 b).1;refine⟨o,(mK L rest j o).2 ⟨_,(h.mem j _ o).2 ⟨b,by rw[<- h.bit j c];exact h1,rfl⟩,?_⟩⟩;rw[D5];intro k hk;rw[AG,eE]at hk;obtain⟨e,he,hb⟩:=hk;simp only[bw,decide_eq_true_eq]at hb;have:=h2 e (yU he) (by rw[mj];exact hb.1);rw[h.get,hb.2]at this;exact this
 ·rintro⟨o,b⟩;obtain⟨m,h1,h2⟩:=(mK L rest j o).1 b;obtain⟨h3,h4,rfl⟩:=(h.mem j m o).1 h1;have c:j<all.size:=(dE.1 h3).1;refine⟨by rw[h.bit j c];exact h4,o,h3,?_⟩;intro e he hb;rw[h.get];rw[D5]at h2;refine h2 e.on ?_;rw[AG,eE];rw[mj]at hb;exact⟨e,yU he,by simp[hb]⟩
def AF(i:Nat):∀(r:List (Nat×Nat×Oper)),(r.map (·.1)).Nodup->∀j m o,((j,m,o)∈ix i r↔(j,m,o)∈r/\j≠i)
 |[],_,j,m,o=>by simp[ix]
 |(k,m',x)::r,e,j,m,o=>by
  simp only[bJ,cw]at e;have f:=AF i r e.2 j m o;simp only[ix];cases hb:nb k i with
  |true=>
   have:=cR hb;subst this;simp only[cond_true,bN,gb];constructor
   ·intro h;refine⟨.inr h,?_⟩;rintro rfl;exact e.1 (bP.2 ⟨_,h,rfl⟩)
   ·rintro⟨⟨rfl,_⟩|h,b⟩
    ·exact absurd rfl b
    ·exact h
  |false=>
   have c:k≠i:=by rintro rfl;rw[jq]at hb;cases hb
   simp only[cond_false,bN,gb,f];constructor
   ·rintro(⟨rfl,rfl,rfl⟩|⟨h,b⟩)
    ·exact⟨.inl ⟨rfl,rfl,rfl⟩,c⟩
    ·exact⟨.inr h,b⟩
   ·rintro⟨⟨rfl,rfl,rfl⟩|h,b⟩
    ·exact .inl ⟨rfl,rfl,rfl⟩
    ·exact .inr ⟨h,b⟩
def AZ(i:Nat):∀(r:List (Nat×Nat×Oper)),List.Sublist ((ix i r).map (·.1)) (r.map (·.1))
 |[]=>by simp[ix]
 |(k,m',x)::r=>by
  simp only[ix];cases nb k i with
  |true=>simp
  |false=>simpa using AZ i r
def lM.push{all:Array Oper}{rest:List (Nat×Nat×Oper)}{L:Nat}{listed:Array Bool}(h:lM all rest L listed){i:Nat}(l:i<all.size)(gV:i∈Region.ready .any all listed):lM all (ix i rest) (je L (ep 1 i)) (listed.setIfInBounds i true):=by
 refine⟨by simp[h.size],?_,?_,?_,(AZ i rest).nodup h.nodup,?_⟩
 ·intro j b;rw[Cj];by_cases c:i=j
  ·subst c;have:i<listed.size:=by rw[h.size];exact l
   simp[this]
  ·rw[getD_set_ne true c,h.bit j b];simp[c]
 ·intro j b;rw[Cj]at b;simp only[fU,decide_eq_true_eq]at b;rcases b with b|rfl
  ·exact h.low j b
  ·exact l
 ·intro j m o;rw[AF i rest h.nodup,h.mem,Cj];constructor
  ·rintro⟨⟨h1,h2,h3⟩,n⟩;exact⟨h1,by simp[h2];omega,h3⟩
  ·rintro⟨h1,h2,h3⟩;simp only[JW,decide_eq_false_iff_not]at h2;exact⟨⟨h1,h2.1,h3⟩,yO⟩
 ·intro j o k b e he hb;rw[Cj]at b ⊢;simp only[fU,decide_eq_true_eq]at b ⊢;left;rcases b with b|rfl
  ·exact h.cl j o k b e he hb
  ·obtain⟨_,o2,g,f⟩:=mem_ready.1 gV;rw[k]at g;cases g;rw[<- h.get];exact f e he hb
def ru:∀(l:List Oper)(k:Nat)(i m:Nat)(o:Oper),(i,m,o)∈mE k l↔∃j,l[j]? =some o/\i=k+j/\m=tS o.after.toList
 |[],k,i,m,o=>by simp[mE]
 |x::l,k,i,m,o=>by
  simp only[mE,bN,gb,ru l (k+1) i m o];constructor
  ·rintro(⟨rfl,rfl,rfl⟩|⟨j,h1,h2,h3⟩)
   ·exact⟨0,rfl,yO,rfl⟩
   ·exact⟨j+1,yU h1,yO,h3⟩
  ·rintro⟨j,h1,h2,h3⟩;cases j with
   |zero=>simp at h1;subst h1;exact .inl ⟨yO,h3,rfl⟩
   |succ j=>exact .inr ⟨j,yU h1,yO,h3⟩
def Au:∀(l:List Oper)(k:Nat) i,i∈(mE k l).map (·.1)->k<=i
 |[],k,i,h=>by simp[mE]at h
 |x::l,k,i,h=>by
  simp only[mE,bJ,bN]at h;rcases h with rfl|h
  ·exact cg _
  ·have:=Au l (k+1) i h;omega
def vM:∀(l:List Oper)(k:Nat),((mE k l).map (·.1)).Nodup
 |[],_=>by simp[mE]
 |x::l,k=>by simp only[mE,bJ,cw];refine⟨λh=>?_,vM l (k+1)⟩;have:=Au l (k+1) k h;omega
def lM.start(all:Array Oper):lM all (mE 0 all.toList) 0 (fj all.size false):=by
 refine⟨yS,λi b=>by simp[b],λi b=>yE b,?_,vM _ _,λj o e c=>yE c⟩;intro i m o;rw[ru];constructor
 ·rintro⟨j,h1,h2,h3⟩;have:i=j:=yO;subst this;exact⟨yU h1,yS,h3⟩
 ·rintro⟨h1,_,h3⟩;exact⟨i,yU h1,yO,h3⟩
def v7{L:Nat}:∀{r:List (Nat×Nat×Oper)}{i:Nat}{o:Oper},nS G L r=some (i,o)->(i,o)∈jk L r/\tX G o=true
 |[],i,o,h=>by simp[nS]at h
 |(k,m,x)::r,i,o,h=>by
  simp only[nS]at h;simp only[jk];cases hf:(tX G x&&zI m L)with
  |true=>rw[hf]at h;simp at h;obtain⟨rfl,rfl⟩:=h;simp only[bw]at hf;rw[hf.2];exact⟨yS,hf.1⟩
  |false=>
   rw[hf]at h;obtain⟨h1,h2⟩:=v7 h;refine⟨?_,h2⟩;cases zI m L with
   |true=>simp[h1]
   |false=>simpa using h1
def zp{f:Nat->Oper->Prop}:∀{l:List (Nat×Oper)}{i:Nat}{o:Oper},EF f l->(i,o)∈l->f i o
 |[],_,_,_,h=>yE h
 |[x],i,o,h,hm=>by simp at hm;subst hm;exact h
 |x::y::l,i,o,h,hm=>by
  rcases bN.1 hm with rfl|hm
  ·exact h.1
  ·exact zp h.2 hm
def vP{i:Nat}{oi:Oper}{Z:List Nat}:∀{l:List Oper}{k:Nat},tM G ops i oi Z k l=true->∀(j:Nat) oj,l[j]? =some oj->
 (i=k+j->∀d,oi.dst=some d->d∉oi.looksAt ops)/\(i≠k+j->eI (k+j) Z=true\/Lb (k+j) oi=true\/(Oper.apart ops oi oj=true/\jQ G oj.op=true))
 |[],_,_,j,oj,h=>yE h
 |x::l,k,h,j,oj,b=>by
  simp only[tM,bw]at h;obtain⟨h1,h2⟩:=h;cases j with
  |succ j=>
   have:=vP h2 j oj (yU b)
   rwa [show k+1+j=k+(j+1)by omega]at this
  |zero=>
   simp at b;subst b;refine⟨?_,?_⟩
   ·intro c d e f;have:nb i k=true:=by rw[P3];omega
    rw[this,e]at h1;simp only[cond_true]at h1;rw[(kW _ _).2 f]at h1;cases h1
   ·intro c
    have:nb i k=false:=by
     cases hb:nb i k with
     |false=>rfl
     |true=>exact absurd (cR hb) yO
    rw[this]at h1;simp only[cond_false]at h1;cases ha:eI k Z with
    |true=>exact .inl (yU ha)
    |false=>
     rw[ha]at h1;simp only[cond_false]at h1;cases hb:Lb k oi with
     |true=>exact .inr (.inl (yU hb))
     |false=>rw[hb]at h1;simp only[cond_false,bw]at h1;exact .inr (.inr h1)
def pt{all:List Oper}:∀{l:List Oper}{k:Nat},qJ G ops all k l=true->∀(j:Nat) oj,l[j]? =some oj->
 Lu oj.op=false/\(tX G oj=true->tM G ops (k+j) oj (behind (k+j) 0 [] all) 0 all=true)
 |[],_,_,j,oj,h=>yE h
 |x::l,k,h,j,oj,b=>by
  simp only[qJ,bw]at h;obtain⟨h1,h2⟩:=h;cases j with
  |succ j=>
   have:=pt h2 j oj (yU b)
   rwa [show k+1+j=k+(j+1)by omega]at this
  |zero=>
   simp at b;subst b;cases hs:Lu x.op with
   |true=>rw[hs]at h1;cases h1
   |false=>refine⟨rfl,λhf=>?_⟩;rw[hs,hf]at h1;exact h1
def La{i:Nat}{o:Oper}:Lb i o=true↔∃e∈o.after,Region.binds .any e=true/\e.on=i:=by
 unfold Lb;rw[py,eE];constructor
 ·rintro⟨e,he,h⟩;simp only[bw]at h;exact⟨e,yU he,by rw[mj];exact h.1,cR h.2⟩
 ·rintro⟨e,he,h1,h2⟩;exact⟨e,yU he,by rw[mj]at h1;simp[h1,h2]⟩
def zj{i:Nat}:∀(l:List Oper)(k:Nat)(b:List Nat),∀z∈b,z∈behind i k b l
 |[],_,b,z,hz=>hz
 |o::l,k,b,z,hz=>by
  simp only[behind];refine zj l (k+1) _ z ?_;cases nX (λe=>nQ e&&(bif nb e.on i then true else eI e.on b)) o.after.toList with
  |true=>exact jC _ hz
  |false=>exact hz
def wg{i:Nat}{all:List Oper}:∀(l:List Oper)(k:Nat)(b:List Nat),(∀j,l[j]? =all[k+j]?)->
 (∀z∈b,∀c,all[z]? =some c->∃e∈c.after,Region.binds .any e=true/\(e.on=i\/e.on∈behind i k b l))->
 ∀z∈behind i k b l,∀c,all[z]? =some c->∃e∈c.after,Region.binds .any e=true/\(e.on=i\/e.on∈behind i k b l)
 |[],k,b,hl,ha,z,hz,c,f=>ha z hz c f
 |o::l,k,b,hl,ha,z,hz,c,f=>by
  simp only[behind]at ha hz ⊢;refine wg l (k+1) _ (λj=>by have:=hl (j+1);rw[show k+1+j=k+(j+1)by omega];simpa using this) ?_ z hz c f;cases hb:nX (λe=>nQ e&&(bif nb e.on i then true else eI e.on b)) o.after.toList with
  |false=>rw[hb]at ha;exact ha
  |true=>
   rw[hb]at ha;intro z hz c f;rcases bN.1 hz with rfl|hz
   ·have h0:=hl 0;rw[iq,f]at h0;simp at h0;subst h0;rw[py,eE]at hb;obtain⟨e,he,hb⟩:=hb;simp only[bw]at hb;refine⟨e,yU he,by rw[mj];exact hb.1,?_⟩;cases g:nb e.on i with
    |true=>exact .inl (cR g)
    |false=>rw[g]at hb;exact .inr (zj _ _ _ _ (jC _ ((kW _ _).1 hb.2)))
   ·exact ha z hz c f
def A9{i:Nat}{all:Array Oper}{rest:List (Nat×Nat×Oper)}{L:Nat}{listed:Array Bool}(h:lM all rest L listed)(c:L.testBit i=false):∀(l:List Oper)(k:Nat)(b:List Nat),(∀j,l[j]? =all[k+j]?)->(∀z∈b,L.testBit z=false)->∀z∈behind i k b l,L.testBit z=false
 |[],k,b,hl,ha,z,hz=>ha z hz
 |o::l,k,b,hl,ha,z,hz=>by
  simp only[behind]at hz;refine A9 h c l (k+1) _ (λj=>by have:=hl (j+1);rw[show k+1+j=k+(j+1)by omega];simpa using this) ?_ z hz;cases hb:nX (λe=>nQ e&&(bif nb e.on i then true else eI e.on b)) o.after.toList with
  |false=>exact ha
  |true=>
   intro z hz;rcases bN.1 hz with rfl|hz
   ·cases g:L.testBit z with
    |false=>rfl
    |true=>
     exfalso;rw[py,eE]at hb;obtain⟨e,he,hb⟩:=hb;simp only[bw]at hb;have h0:all[z]? =some o:=by have:=hl 0;simpa using this.symm
     have h1:=h.cl z o h0 g e (yU he) (by rw[mj];exact hb.1);cases f:nb e.on i with
     |true=>rw[cR f,c]at h1;cases h1
     |false=>rw[f]at hb;rw[ha _ ((kW _ _).1 hb.2)]at h1;cases h1
   ·exact ha z hz
def Ag(tt:TypeId->Option TI)(E:List RI)(Pp:fE)(objs:List Ob)(w:World)(b:World):Prop:=∀ad v,nY tt E Pp objs w ad v->pc b ad=some v
def Ag.self(b:WR tt E Pp objs w):Ag tt E Pp objs w w:=λ_ _ h=>h.cell b
def pe:∀(l:List Ob)(i:Nat),(kP l)[i]? =(l[i]?).map λo=>match o with| .map _ _ _=>.dead| .iter _ _=>.dead| .diter _ _ _=>.dead| .loop _ _ _ _ _ _=>.dead|o=>o
 |[],i=>by simp[kP]
 |o::l,i=>by cases o<;>cases i<;>simp[kP,pe l]
def FW{i:Nat}{cs:List PV}(h:(kP objs)[i]? =some (.box cs)):objs[i]? =some (.box cs):=by
 rw[pe]at h;cases b:objs[i]? with
 |none=>rw[b]at h;simp at h
 |some o=>rw[b]at h;cases o<;>simp at h;rw[h]
def sM{i:Nat}{e:TypeId}{wr:Bool}(h:(kP objs)[i]? =some (.row e d wr)):objs[i]? =some (.row e d wr):=by
 rw[pe]at h;cases b:objs[i]? with
 |none=>rw[b]at h;simp at h
 |some o=>rw[b]at h;cases o<;>simp at h;obtain⟨rfl,rfl,rfl⟩:=h;rfl
def FV{i:Nat}{k:CK}{e:TypeId}(h:(kP objs)[i]? =some (.map k e d)):False:=by
 rw[pe]at h;cases b:objs[i]? with
 |none=>rw[b]at h;simp at h
 |some o=>rw[b]at h;cases o<;>simp at h
def WR.Wx(l:WR tt E Pp objs w):RW tt E Pp (kP objs) (Ag tt E Pp objs w):=by
 refine⟨?_,?_,?_,?_,?_,?_⟩
 ·intro p h2 ad v t;exact h2 ad v (.inl t)
 ·intro i cs b f k;have f:=FW f;obtain⟨ri,c,h⟩:=l.ob i _ f rfl;rw[k]at c;cases c;obtain⟨vs,T,hb,m,_⟩:=h;refine⟨vs,m,λp h2 j v n=>by rw[<- pd];exact h2 _ _ (.inr ⟨by rw[eC hb];exact n,i,.inl ⟨cs,f,k⟩⟩)⟩
 ·intro i e d wr f k;have f:=sM f;obtain⟨ri,c,h⟩:=l.ob i _ f rfl;rw[k]at c;cases c;exact h
 ·intro i e d wr g o len cap f k;have f:=sM f;obtain⟨ri,c,h⟩:=l.ob i _ f rfl;rw[k]at c;cases c;obtain⟨vs,T,rows,hb,s,hl,q,fh,dG,_,_⟩:=h;exact⟨vs,rows,s,hl,dG,λp h2 j v n _ c8=>by rw[<- pd];exact h2 _ _ (.inr ⟨by rw[eC hb];exact n,i,.inr ⟨e,d,wr,o,len,cap,f,k,c8⟩⟩)⟩
 ·intro i e d g o len cap f k;have f:=sM f;obtain⟨ri,c,h⟩:=l.ob i _ f rfl;rw[k]at c;cases c;exact OR.ng h
 ·intro i kc e d b bs cl f;exact(FV f).elim
def E5(G:ea)(E:List RI)(Pp:fE)(objs:List Ob)(w:World)(b:World):Prop:=match G.KU with
 |true=>∀ad v,Pp ad v->pc b ad=some v
 |false=>Ag G.tt E Pp objs w b
def E5.self(b:WR G.tt E Pp objs w):E5 G E Pp objs w w:=by
 unfold E5;split
 ·exactλad v h=>b.pi _ _ h
 ·exact Ag.self b
def mo:∀(l:List Ob)(i:Nat)(o:Ob),(A4 l)[i]? =some o->o= .dead
 |[],i,o,h=>by simp[A4]at h
 |x::l,0,o,h=>by simp[A4]at h;exact h.symm
 |x::l,i+1,o,h=>by simp[A4]at h;exact mo l i o h
def WR.Tf(f:WR G.tt E Pp objs w):RW G.tt E Pp (zY G objs) (E5 G E Pp objs w):=by
 unfold zY E5;cases G.KU with
 |true=>
  refine⟨λh h2=>h2,?_,?_,?_,?_,?_⟩
  ·intro i cs b c;cases mo _ _ _ c
  ·intro i e d wr c;cases mo _ _ _ c
  ·intro i e d wr g o len cap c;cases mo _ _ _ c
  ·intro i e d g o len cap c;cases mo _ _ _ c
  ·intro i kc e d b bs cl c;cases mo _ _ _ c
 |false=>exact f.Wx
def LW{i:Nat}{K:Act->World->Prop}{a:Act}{w:World}(h:wpOpIn (kS r) 0 P ops Q i K a w):(∃e a w,Q e a w)\/∃a w,K a w:=by
 unfold wpOpIn at h;split at h
 ·exact .inr ⟨_,_,h⟩
 ·split at h
  ·rename_i o j g;have h:=h.2;generalize (o.semAt (kS r).round a.eval).run P w=x at h;cases x with
   |ok x w'=>
    cases x with
    |value v=>exact .inr ⟨_,_,h⟩
    |skip=>exact .inr ⟨_,_,h⟩
    |defer d=>exact .inr ⟨_,_,h⟩
    |enter f args=>
     obtain⟨e,b,_,he,_⟩:=h.2.2 [] (oo _);cases e with
     |returned v=>exact .inr ⟨_,_,he⟩
     |panicked c=>exact .inl ⟨_,_,_,he⟩
     |outgrown=>obtain⟨a,w,he⟩:=he;exact .inl ⟨_,_,_,he⟩
    |row row args=>obtain⟨v,b,he,_⟩:=h.2 default [] (oo _);exact .inr ⟨_,_,he⟩
    |round l f tmps assign body=>
     obtain⟨e,b,he,_⟩:=h.2.2 default [] (oo _);cases e with
     |returned v=>exact .inr ⟨_,_,he⟩
     |panicked c=>exact .inl ⟨_,_,_,he⟩
     |outgrown=>obtain⟨a,w,he⟩:=he;exact .inl ⟨_,_,_,he⟩
    |_=>exact h.elim
   |halt s w'=>
    cases s with
    |panic v=>exact .inl ⟨_,_,_,h⟩
    |_=>exact h.elim
  ·exact .inr ⟨_,_,h.2⟩
def B6{b:Region.Mode}:∀(k:Nat)(listed:Array Bool)(a:Act)(w:World),wpAnyIn (kS r) 0 P b ops Q k listed a w->∃e a w,Q e a w
 |0,_,_,_,h=>⟨_,_,_,h.2⟩
 |k+1,listed,a,w,h=>by
  cases hr:Region.ready b ops listed with
  |nil=>exact⟨_,_,_,h.1 hr⟩
  |cons i l=>
   rcases LW (h.2 i (by rw[hr];simp))with h1|⟨c,w',h1⟩
   ·exact h1
   ·exact B6 k _ c w' h1
def fS.pick{tt:TypeId->Option TI}{N n0:Nat}{ps:List Nat}(hb:B.E0.length=n0)(h:fS tt N B E Pp st a w)(ek:(jz ps&&xd n0 0 ps)=true):fS tt N B (ps.map λr=>E.getD r .row0) Pp (uT ps st) a w:=by
 simp only[bw]at ek;have fR:=oy ek.1;have e:=G9 ek.2;obtain⟨s,o⟩:=st;refine⟨h.wr.pick fR,?_,h.size,h.defers,?_,h.rv,h.fr,h.jo,?_⟩
 ·intro t;show VR tt _ Pp _ (look (Av ps s) t);rw[xW];exact tL (λ_ _ _=>pb) 8 _ _ (h.fk t)
 ·intro i x j;have m:i<n0:=by rw[<- hb];exact(dx.1 j).1
  have:=e i m;rw[dW]at this;rcases h.pre i x j with h1|⟨b,n,c,n',l,rfl,h1⟩
  ·exact .inl (qt this h1)
  ·exact .inr ⟨b,n,c,n',l,rfl,qt this h1⟩
 ·intro i q ri b k hl g f;obtain⟨r,p,a1,a2,a3,a4⟩:=qq h.wr k hl g;exact h.fresh r p ri b a2 a3 a4 f
def fS.same{b c:St}(hB:B.E0.length=G.n0)(h:fS G.tt G.n B E Pp c a w)(hs:uP G.n0 b c):∃E',fS G.tt G.n B E' Pp b a w:=by
 obtain⟨f,h3,hl,e⟩:=hs;have key:∀{E'},fS G.tt G.n B E' Pp f a w->fS G.tt G.n B E' Pp b a w:=λh=>⟨by rw[e];exact h.wr,λt=>by rw[hl];exact h.fk t,h.size,h.defers,h.pre,h.rv,h.fr,h.jo,by rw[e];exact h.fresh⟩;rcases h3 with rfl|⟨ps,ek,rfl⟩
 ·exact⟨_,key h⟩
 ·exact⟨_,key (h.pick hB ek)⟩
def H9{r0:Option Nat}(ak:ec P G.tt)(hB:B.E0.length=G.n0){all:Array Oper}(ek:qJ G all all.toList 0 all.toList=true){Q:St->Prop}{Q':Exit->Act->World->Prop}(hQ:∀E Pp st a w,fS G.tt G.n B E Pp st a w->Q st->Q' .normal a w)(F:∀c a w,¬Q' (.panic c) a w):
 ∀(n:Nat)(rest:List (Nat×Nat×Oper))(L:Nat)(listed:Array Bool)(st:St)(E:List RI)(Pp:fE)(a:Act)(w:World),lM all rest L listed->fS G.tt G.n B E Pp st a w->mb dz G (jT P G.tt) all.toList n rest L st Q->
  iz r0 P all (λi=>match all[i]? with|some o=> !jQ G o.op|none=>false) Q' (E5 G E Pp st.o w) n listed a w:=by
 have ai:∀(j:Nat)(o:Oper) cs b,all[j]? =some o->o.op≠ .select cs b:=by intro j o cs b m he;have:=(pt ek j o (yU m)).1;rw[he]at this;cases this
 have fR:∀(j:Nat)(o:Oper) c,all[j]? =some o->o.op≠ .defer c:=by intro j o c m he;have:=(pt ek j o (yU m)).1;rw[he]at this;cases this
 intro n;induction n generalizing Q Q' with
 |zero=>
  intro rest L listed st E Pp a w hl h hr;simp only[mb]at hr;split at hr
  ·rename_i gV;refine⟨E5.self h.wr,?_,hQ _ _ _ _ _ h hr⟩;apply gf.2;intro j H;obtain⟨o,m⟩:=(ou hl j).1 H;rw[gV]at m;simp at m
  ·exact hr.elim
 |succ n ih=>
  intro rest L listed st E Pp a w hl h hr;simp only[mb]at hr;split at hr
  ·
    rename_i i' o hf;obtain⟨S,s⟩:=v7 hf;have p:=(ou hl i').2 ⟨o,S⟩;obtain⟨mk,I,_⟩:=(mK L rest i' o).1 S;have h1:all.toList[i']? =some o:=by simpa using((hl.mem i' mk o).1 I).1
    have k:all[i']? =some o:=yU h1;have fh:i'<all.size:=(dE.1 k).1;have hp:=(pt ek i' o h1).2 s;rw[dW]at hp;have V:=vP hp;have aa:fM (G.dV,G.live) o.op=true:=(AO s).2;have s:=Ly s
    have aa:jQ G o.op=true:=by
     unfold jQ;split
     ·rfl
     ·exact aa
    have hu:L.testBit i'=false:=((hl.mem i' mk o).1 I).2.1;have aE:∀z∈behind i' 0 [] all.toList,listed.getD z false=false:=λz hz=>by rw[hl.get];exact A9 hl hu all.toList 0 [] (λj=>yS) yS z hz
    have az:∀z∈behind i' 0 [] all.toList,∀oz,all[z]? =some oz->∃e∈oz.after,Region.binds .any e=true/\(e.on=i'\/e.on∈behind i' 0 [] all.toList):=λz hz oz m=>wg (all:=all.toList) all.toList 0 [] (λj=>yS) yS z hz oz (yU m)
    have x:∀j oj,all[j]? =some oj->j≠i'->listed.getD j true=false->j∉behind i' 0 [] all.toList->o.apart all oj=true/\(match all[j]? with|some o=> !jQ G o.op|none=>false)=false:=by
     intro j oj H aK J au;have O:=(V j oj (yU H)).2 yO;rw[dW]at O;rcases O with O|O|⟨aB,aC⟩
     ·exact absurd ((kW _ _).1 O) au
     ·obtain⟨e,he,hb,aw⟩:=La.1 O;obtain⟨_,o2,an,y⟩:=mem_ready.1 p;rw[k]at an;cases an;have:=y e he hb;rw[aw]at this;exfalso;have ax:j<listed.size:=by rw[hl.size];exact(dE.1 H).1
      rw[bO]at this J;simp[ax]at this J;rw[this]at J;cases J
     ·exact⟨aB,by rw[H];simp[aC]⟩
    have C:=(V i' o h1).1 yO;have hD:(match all[i']? with|some o=> !jQ G o.op|none=>false)=false:=by rw[k];simp[aa]
    have ac:=h.wr.Tf (G:=G)
    have go:∀v f,fS G.tt G.n B E Pp f (a.put o.dst v) w->f.o=st.o->mb dz G (jT P G.tt) all.toList n (ix i' rest) (je L (ep 1 i')) f Q->uu P all (E5 G E Pp st.o w) o v a->
     iz r0 P all (λi=>match all[i]? with|some o=> !jQ G o.op|none=>false) Q' (E5 G E Pp st.o w) (n+1) listed a w:=by
     intro v f h5 h6 h7 h8;have N:=ih hQ F _ _ (listed.setIfInBounds i' true) f E Pp _ w (hl.push fh p) h5 h7;rw[h6]at N;exact Bm k ai fR F hD C (behind i' 0 [] all.toList) az n listed a w aE x p h8 (E5.self h.wr) N
    have run:∀g,fS G.tt G.n B E Pp g a w->g.o=st.o->cF dz G.tt o.op o.type g.s (zY G g.o) (λv=>sK G o.dst v g (λl=>mb dz G (jT P G.tt) all.toList n (ix i' rest) (je L (ep 1 i')) l Q))->Region.wanted o (yielded all a.tmps)=true->
     iz r0 P all (λi=>match all[i]? with|some o=> !jQ G o.op|none=>false) Q' (E5 G E Pp st.o w) (n+1) listed a w:=by
     intro g h5 h6 h7 h8;rw[h6]at h7;obtain⟨v,pv,aj,hv,hK⟩:=As ak ac h5.fk h7;obtain⟨f,W,q2,X⟩:=rk h5.size h5.defers hv h5.fk h5.EX hK;exact go v f W (X.trans h6) q2 (.inl ⟨h8,aj⟩)
    have skip:∀g,fS G.tt G.n B E Pp g a w->g.o=st.o->sK G o.dst (.tup []) g (λl=>mb dz G (jT P G.tt) all.toList n (ix i' rest) (je L (ep 1 i')) l Q)->Region.wanted o (yielded all a.tmps)=false->
     iz r0 P all (λi=>match all[i]? with|some o=> !jQ G o.op|none=>false) Q' (E5 G E Pp st.o w) (n+1) listed a w:=by
     intro g h5 h6 h7 h8;obtain⟨f,W,q2,X⟩:=rk (v:=undef) h5.size h5.defers (.tup [] [] .nil) h5.fk h5.EX h7;exact go undef f W (X.trans h6) q2 (.inr ⟨h8,rfl⟩)
    unfold guarded at hr;split at hr
    ·rename_i t;exact run st h rfl hr (by unfold Region.wanted;rw[t])
    ·rename_i j want t;split at hr
     ·exact hr.elim
     rename_i oj H;rw[tQ]at H;have Y:all[j]? =some oj:=yU H;split at hr
     ·exact hr.elim
     rename_i dj ab;split at hr
     ·rename_i b q;have lA:=q0 t Y ab h q (.inl rfl);cases hb:Jw b want with
      |true=>rw[hb]at hr lA;exact run st h rfl hr lA
      |false=>rw[hb]at hr lA;exact skip st h rfl hr lA
     ·rename_i b q;have lA:=q0 t Y ab h q (.inr rfl);cases hb:Jw b want with
      |true=>have A:=zl.1 hb;rw[hb]at lA;exact run _ (om h q A) rfl (hr.1 A) lA
      |false=>
       have A:b=dL want:=by clear hr x V C hD run skip go ih;rw[H8];cases b<;>cases want<;>first|rfl|(simp[Jw]at hb)
       rw[hb]at lA;exact skip _ (om h q A) rfl (hr.2 A) lA
     ·rename_i q;exact skip st h rfl hr (Bq t Y ab h q)
     ·exact hr.elim
  ·split at hr
   ·rename_i gV;have ah:Region.ready .any all listed=[]:=by apply gf.2;intro j H;obtain⟨o,m⟩:=(ou hl j).1 H;rw[gV]at m;simp at m
    exact⟨E5.self h.wr,λ_=>hQ _ _ _ _ _ h hr,λi M=>by rw[ah]at M;cases M⟩
   ·
    rename_i r rs gV
    have step:∀{Q1:St->Prop}{Q1':Exit->Act->World->Prop},(∀E Pp st a w,fS G.tt G.n B E Pp st a w->Q1 st->Q1' .normal a w)->(∀c a w,¬Q1' (.panic c) a w)->∀i' o,i'∈Region.ready .any all listed->all[i']? =some o->
     guarded G all.toList o st (λst K=>dY dz G (jT P G.tt) o st K) (λl=>mb dz G (jT P G.tt) all.toList n (ix i' rest) (je L (ep 1 i')) l Q1)->
     wpOpIn (kS r0) 0 P all Q1' i' (λa' w'=>if(match all[i']? with|some o=> !jQ G o.op|none=>false)=true then wpAnyIn (kS r0) 0 P .any all Q1' n (listed.setIfInBounds i' true) a' w' else iz r0 P all (λi=>match all[i]? with|some o=> !jQ G o.op|none=>false) Q1' (E5 G E Pp st.o w) n (listed.setIfInBounds i' true) a' w') a w:=by
     intro Q1 Q1' ag R i' o M k O;have fh:i'<all.size:=(dE.1 k).1;refine sQ hB k ?_ ?_ h O
     ·intro g h5 h6 hc _;refine Oper.wpIn_mono ?_ (tw ak hB h5.EX h5.fk hc);rintro a' w' ⟨l,E',Pp',v,pv,rfl,hv,hs,hw,hK,hH,hM⟩;obtain⟨f,W,q2,X⟩:=rk h5.size h5.defers hv hs hw hK;have N:=ih ag R _ _ (listed.setIfInBounds i' true) f E' Pp' _ w' (hl.push fh M) W q2;simp only[k];cases hq:jQ G o.op with
      |false=>simp only[tg,if_true];exact N.any
      |true=>
       simp only[E9,cv,if_false];refine N.mono (λw2 h2=>?_);unfold E5 at h2 ⊢;unfold jQ at hq;cases al:G.KU with
       |true=>rw[al]at h2;exactλad u hu=>h2 ad u (hM ad u hu)
       |false=>rw[al]at h2 hq;intro ad u hu;refine h2 ad u ?_;rw[X];rw[<- h6]at hu;exact hH hq ad u hu
     ·intro f W q2 _ X;have N:=ih ag R _ _ (listed.setIfInBounds i' true) f E Pp _ w (hl.push fh M) W q2;rw[X]at N;simp only[k];cases hq:jQ G o.op with
      |false=>simp only[tg,if_true];exact N.any
      |true=>simp only[E9,cv,if_false];exact N
    have T:∀i' o,(i',o)∈jk L rest->i'∈Region.ready .any all listed/\all[i']? =some o:=by intro i' o m;obtain⟨mk,I,_⟩:=(mK L rest i' o).1 m;exact⟨(ou hl i').2 ⟨o,m⟩,((hl.mem i' mk o).1 I).1⟩
    refine⟨E5.self h.wr,λh0=>?_,λi' M=>?_⟩
    ·exfalso;have:=(T r.1 r.2 (by rw[gV];simp)).1;rw[h0]at this;cases this
    ·obtain⟨o,m⟩:=(ou hl i').1 M;have k:=(T i' o m).2;rw[gV]at m;split at hr
     ·obtain⟨am,U⟩:=T r.1 r.2 (by rw[gV];simp);rcases bN.1 m with rfl|ay
      ·exact step (Q1':=Q') (λE Pp st a w h1 h2=>hQ E Pp st a w h1 h2.2) F _ _ am U hr
      ·
       have aF:=step (Q1':=λe _ _=>e= .normal/\∃Z,EF (λi o=>guarded G all.toList o st (λst K=>dY dz G (jT P G.tt) o st K) λl=>mb dz G (jT P G.tt) all.toList n (ix i rest) (je L (ep 1 i)) l λs2=>uP G.n0 Z s2) rs/\Q Z)
        (λE Pp st a w h1 h2=>⟨rfl,st,h2⟩) (λc a w h=>yC h.1) _ _ am U hr
       have aD:∃Z,EF (λi o=>guarded G all.toList o st (λst K=>dY dz G (jT P G.tt) o st K) λl=>mb dz G (jT P G.tt) all.toList n (ix i rest) (je L (ep 1 i)) l λs2=>uP G.n0 Z s2) rs/\Q Z:=by
        rcases LW aF with⟨_,_,_,h1⟩|⟨a',w',h1⟩
        ·exact h1.2
        ·simp only[U]at h1;split at h1
         ·obtain⟨_,_,_,h2⟩:=B6 _ _ _ _ h1;exact h2.2
         ·obtain⟨_,_,_,h2⟩:=B6 _ _ _ _ h1.any;exact h2.2
       obtain⟨Z,y,av⟩:=aD;exact step (Q1':=Q') (λE Pp st a w h1 h2=>(h1.same hB h2).elim λE' h3=>hQ E' Pp Z a w h3 av) F _ _ M k (zp y ay)
     ·exact step hQ F _ _ M k (zp hr m)
end
end
section
variable [Inhabited pB]
open Go
section
variable {P:Program}{G:ea}{B:jc}{E:List RI}{Pp:fE}{w:World}{st:St}{a:Act}
variable {fn:Func}{c:Code}{args:List PV}{f:FuncId}{K:PV->List Ob->Prop}{tt:TypeId->Option TI}{r:Option Nat}{N n0:Nat}{LP:Code->St->(Ex->St->Prop)->Prop}{vals:List Value}{objs:List Ob}{fin:St->Prop}
def qU.wJ{st:St}{Q:Ex->St->Prop}
 (h:∀B E Pp a w,B.E0.length=n0->fS tt N B E Pp st a w->c.wpIn (kS r) 0 P (λe i w'=>∃g b E' Pp',pn e g/\fS tt N B E' Pp' b i w'/\Q g b) a w):qU P tt N n0 r c st Q:=by
 intro B E Pp a w hb hs;refine wpIn_mono (h (B.here E Pp st.o a.defers w) E Pp a w hb hs.here) ?_;rintro e i w' ⟨g,b,E',Pp',he,d,j⟩;exact⟨g,b,E',Pp',he,hs.back (d2:=i.defers) d.at,Mk.none d.defers,d.fr.size,j⟩
def Hp(l:ec P G.tt)(n:P.follows .mixedOrders=true)(id:Nat)(ops:Array Oper)(d:Bool):∀(st:St)(Q:Ex->St->Prop),zE dz G (jT P G.tt) id ops d st (Q .normal)->qU P G.tt G.n G.n0 r (.region id ops d) st Q:=by
 intro st Q h;refine qU.wJ λB E Pp a w hb hs=>?_;cases d with
 |true=>
  refine wpIn_region_any n ?_
  have k:qJ G ops ops.toList 0 ops.toList=true/\mb dz G (jT P G.tt) ops.toList (ch ops.toList) (mE 0 ops.toList) 0 ⟨st.s,fw (iY st.s ops.toList ops.toList) 0 st.o⟩ (Q .normal):=by
   simp only[zE]at h;split at h
   ·exact⟨h.1 (λh=>h),h.2⟩
   ·have h1:=h.1 (λh=>h);simp only[bw]at h1;refine⟨h1.1,?_⟩;rw[<- wQ dz G (jT P G.tt) _ _ _ _ _ ?_ h1.2]
    ·exact h.2
    ·intro i m o n;obtain⟨j,e1,e2,_⟩:=(ru _ _ _ _ _).1 n;rw[tQ,e2,dW];exact e1
  obtain⟨h1,h2⟩:=k;have s:fS G.tt G.n B E (gK G.tt E st.o w Pp (iY st.s ops.toList ops.toList)) ⟨st.s,fw (iY st.s ops.toList ops.toList) 0 st.o⟩ a { w with drawn:=w.drawn+1 }:=by have:=(hs.EX.mN (iY st.s ops.toList ops.toList)).drew;exact cL.JP (st:=⟨st.s,fw (iY st.s ops.toList ops.toList) 0 st.o⟩) this (λt=>(hs.fk t).mono (λ_ _ h=>h) (λ_ _ h=>.inl h)) hs.size hs.defers
  have hl:=lM.start ops;rw[cI,ey]at h2
  exact(H9 (r0:=r) (B:=B) l hb h1 (Q:=Q .normal) (Q':=λe q w'=>∃g b E' Pp',pn e g/\fS G.tt G.n B E' Pp' b q w'/\Q g b)
   (λE Pp st a w hs p=>⟨.normal,st,E,Pp,trivial,hs,p⟩) (by rintro c a w ⟨g,_,_,_,h,_⟩;cases g<;>exact h) ops.size _ _ _ _ E _ a _ hl s h2).any
 |false=>
  refine wpIn_region ?_
  have:=An (r:=r) (B:=B) l hb (all:=ops) (Q:=Q .normal) (Q':=λe q w'=>∃g b E' Pp',pn e g/\fS G.tt G.n B E' Pp' b q w'/\Q g b)
   (λE Pp st a w hs p=>⟨.normal,st,E,Pp,trivial,hs,p⟩) ops.toList 0 rfl st E Pp a w hs h
  simpa[JT]using this
def o9(M:ec P G.tt)(T:P.follows .mixedOrders=true)(J:∀c st Q,LP c st Q->qU P G.tt G.n G.n0 r c st Q):∀(c:Code)(st:St)(Q:Ex->St->Prop),mC dz G (jT P G.tt) LP c st Q->qU P G.tt G.n G.n0 r c st Q:=by
 intro c;induction c with
 |skip=>intro st Q h;exact qU.wJ λB E Pp a w hb hs=>wpIn_skip ⟨.normal,st,E,Pp,trivial,hs,h⟩
 |region id ops draw=>
  intro st Q h;simp only[mC]at h;split at h
  ·exact J _ _ _ h
  ·exact Hp M T id ops draw st Q h
 |seq x y s q=>
  intro st Q h B E Pp a w hb hs;refine wpIn_seq (wpIn_mono (s _ _ h B E Pp a w hb hs) ?_);rintro e A w' ⟨C,o,E',Pp',he,m,n,fh,p⟩;cases e<;>cases C<;>simp only[pn]at he
  ·refine wpIn_mono (q _ _ p (B.here E' Pp' o.o A.defers w') E' Pp' A w' hb m.here) ?_;rintro e2 a2 W ⟨D,H,E2,F,L,k,O,I,V⟩;exact⟨D,H,E2,F,L,fS.back (B:=B.at A.defers) m k,Mk.trans fh n k O,bQ fh I,V⟩
  ·subst he;exact⟨.exit _,o,E',Pp',rfl,m,n,fh,p⟩
  ·exact⟨.ret,o,E',Pp',trivial,m,n,fh,p⟩
 |cond c x y s q=>
  intro st Q h B E Pp a w hb hs;have hc:=eG hs.fk c;simp only[mC]at h
  have l:∀(b t:Bool),ev st.s c= .bool t->t=b->fS G.tt G.n B E Pp (zC c b st) a w:=by
   intro b t g R;cases c with
   |tmp d=>
    simp only[zC];simp only[ev]at g
    have hl:look st.s d= .bool t:=by
     cases S:look st.s d<;>rw[S]at g<;>simp[norm]at g
     rw[g]
    exact om hs hl R
   |_=>exact hs
  split at h
  ·rename_i g;rw[g]at hc;generalize z:a.eval c=v at hc;cases hc;exact wpIn_cond_true z (s _ _ h B E Pp a w hb hs)
  ·rename_i g;rw[g]at hc;generalize z:a.eval c=v at hc;cases hc;exact wpIn_cond_false z (q _ _ h B E Pp a w hb hs)
  ·rename_i t g;rw[g]at hc;generalize z:a.eval c=v at hc;cases hc;cases t with
   |true=>exact wpIn_cond_true z (s _ _ (h.1 rfl) B E Pp a w hb (l _ _ g rfl))
   |false=>exact wpIn_cond_false z (q _ _ (h.2 rfl) B E Pp a w hb (l _ _ g rfl))
  ·exact h.elim
 |block id c U=>
  intro st Q h B E Pp a w hb hs;refine wpIn_block (wpIn_mono (U _ _ h B E Pp a w hb hs) ?_);rintro e A w' ⟨C,o,E',Pp',he,m,n,fh,p⟩;cases e<;>cases C<;>simp only[pn]at he
  ·exact⟨.normal,o,E',Pp',trivial,m,n,fh,p⟩
  ·rename_i i j;subst he;simp only[Exit.inBlock];simp only at p;by_cases u:i=id
   ·subst u;rw[jq]at p;rw[if_pos rfl];exact⟨.normal,o,E',Pp',trivial,m,n,fh,p⟩
   ·have hb:nb i id=false:=by
     cases hb:nb i id with
     |false=>rfl
     |true=>exact absurd (cR hb) u
    rw[hb]at p;rw[if_neg u];exact⟨.exit _,o,E',Pp',rfl,m,n,fh,p⟩
  ·exact⟨.ret,o,E',Pp',trivial,m,n,fh,p⟩
 |loop c _=>intro st Q h;exact J _ _ _ h
 |exit id=>intro st Q h;exact qU.wJ λB E Pp a w hb hs=>wpIn_exit ⟨.exit id,st,E,Pp,rfl,hs,h⟩
 |ret=>intro st Q h;exact qU.wJ λB E Pp a w hb hs=>wpIn_ret ⟨.ret,st,E,Pp,trivial,hs,h⟩
 |rangeFunc=>intro st Q h;exact J _ _ _ h
 |scope=>intro st Q h;exact h.elim
 |label=>intro st Q h;exact h.elim
 |goto=>intro st Q h;exact h.elim
 |refuse=>intro st Q h;exact h.elim
def FJ(b:ec P G.tt)(d:P.follows .mixedOrders=true):∀(c:Code)(st:St)(Q:Ex->St->Prop),mC dz G (jT P G.tt) (λc st Q=>qU P G.tt G.n G.n0 r c st Q) c st Q->qU P G.tt G.n G.n0 r c st Q:=o9 b d λ_ _ _ h=>h
def sd:∀(ps:List PV)(i t:Nat),look (lR i ps) t=if i<=t/\t<i+ps.length then ps.getD (t-i) .undef else .undef
 |[],i,t=>by simp[lR,look]
 |p::ps,i,t=>by
  simp only[lR,iK,sd ps (i+1) t];by_cases h:i=t
  ·subst h;simp
  ·rw[if_neg h];by_cases h2:i+1<=t/\t<i+1+ps.length
   ·rw[if_pos h2,if_pos yQ];rw[show t-i=(t-(i+1))+1 by omega];simp
   ·rw[if_neg h2,if_neg yQ]
def D7{n:Nat}(b:eJ G.tt E Pp vals args):
 ∀t,VR G.tt E Pp (((⟨vals⟩:Array Value)++fj n undef).getD t undef) (look (lR 0 args) t):=by
 intro t;rw[sd];have hl:=b.length;by_cases h:0<=t/\t<0+args.length
 ·rw[if_pos h];have c8:t<args.length:=yO;obtain⟨v,h1,h2⟩:=b.get (j:=t) (p:=args[t]) (bx c8);have e1:args.getD (t-0) .undef=args[t]:=by simp[cc,bx c8]
  have e2:((⟨vals⟩:Array Value)++fj n undef).getD t undef=v:=by rw[bO,gM (by simpa using(by omega:t<vals.length))];simp[h1]
  rw[e1,e2];exact h2
 ·rw[if_neg h];exact .undef _
def IK(tmps:Array Value):ResultVar->Sem Value
 | .tmp t=>pure (tmps.getD t undef)
 | .cell a t=>do loadVar t (<- asAddr (tmps.getD a undef))
def FE(fn:Func)(tmps:Array Value):results fn tmps=(do let vs <-fn.results.mapM (IK tmps);pure (if h:vs.size=1 then vs[0]else .tuple vs)):=rfl
def IJ{tmps:Array Value}{t:Nat}{ty:TypeId}{ad:Addr}(h:tmps.getD t undef= .pointer (some ad)):IK tmps (.cell t ty)=loadVar ty ad:=by simp only[IK,h,asAddr,pure_bind]
def tH(d:ec P G.tt)(hs:fS G.tt G.n B E Pp st a w):∀{l:List ResultVar}{ps:List PV},xF G st l=some ps->
 ∃vs,(l.mapM (IK a.tmps)).run P w= .ok vs w/\eJ G.tt E Pp vs ps
 |[],ps,h=>by simp[xF]at h;subst h;exact⟨[],yS,.nil⟩
 | .tmp t::r,ps,h=>by
  simp only[xF]at h;split at h
  ·rename_i l hl;simp at h;subst h;obtain⟨vs,h1,h2⟩:=tH d hs hl;exact⟨a.tmps.getD t undef::vs,by simp only[CD,IK,Sem.run_bind,Sem.run_pure,Result.andThen_ok,h1],.cons _ _ _ _ (PJ 8 _ _ (HH (hs.fk t))) h2⟩
  ·simp at h
 | .cell t ty::r,ps,h=>by
  simp only[xF]at h;split at h
  ·rename_i b off ti l hb g hl;split at h
   ·rename_i cs i;simp only[cI,tp,y9]at h;cases hle:(ir off dB&&ir (off+ti.bT.length) cs.length)with
    |false=>rw[hle]at h;simp at h
    |true=>
     rw[hle]at h;simp at h;subst h;obtain⟨vs,h1,h2⟩:=tH d hs hl;have e:=hs.fk t;rw[hb]at e;generalize k:a.tmps.getD t undef=v at e;cases e with
     |box _ _ _ gv j hu=>
      rw[bw]at hle;obtain rfl:=hu.get hle.1;obtain⟨v,h3,h4⟩:=DP (d _ _ g) hs.wr.rw j i (dK hle.2);refine⟨v::vs,?_,.cons _ _ _ _ (PJ 8 _ _ h4) h2⟩;have h5:(loadVar ty ⟨gv,off,none⟩).run P w= .ok v w:=by simpa[Instr.loadAt,Instr.sureAddr]using h3 w rfl
      simp only[CD,IJ k,Sem.run_bind,Sem.run_pure,Result.andThen_ok,h5,h1]
   ·simp at h
  ·simp at h
def tI(e:ec P G.tt)(hs:fS G.tt G.n B E Pp st a w){p:PV}(h:xG G st fn.results.toList=some p):
 ∃v,(results fn a.tmps).run P w= .ok v w/\VR G.tt E Pp v p:=by
 unfold xG at h
 have b:∀vs:List Value,(fn.results.toList.mapM (IK a.tmps)).run P w= .ok vs w->
  (results fn a.tmps).run P w= .ok (if h:(⟨vs⟩:Array Value).size=1 then(⟨vs⟩:Array Value)[0]else .tuple ⟨vs⟩) w:=by
  intro vs d;simp only[FE,Sem.run_bind,oT,Sem.run_map,d,Result.andThen_ok];rfl
 split at h
 ·rename_i v d;simp at h;subst h;obtain⟨vs,h1,h2⟩:=tH e hs d;cases h2 with
  |cons u _ vs _ hu i=>cases i;exact⟨u,by rw[b _ h1];simp,hu⟩
 ·rename_i vs g d;simp at h;subst h;obtain⟨us,h1,h2⟩:=tH e hs d;refine⟨.tuple ⟨us⟩,?_,.tup _ _ h2⟩;rw[b _ h1];have hl:=h2.length
  have:¬(⟨us⟩:Array Value).size=1:=by
   intro h1;have:vs.length=1:=by rw[<- hl];simpa using h1
   match vs,this with
   |[x],_=>exact g x rfl
  rw[dif_neg this]
 ·simp at h
def mn(hf:P.funcs[f]? =some fn)(hb:fn.body=some c)(b:(fn.name== "runtime.NumGoroutine")=false):(callFunc f ⟨vals⟩).run P w= .ok (.enter f ⟨vals⟩) w:=by have h2:¬fn.name= "runtime.NumGoroutine" :=yU b;simp[callFunc,hf,hb,h2]
def fS.Hr{b:Nat}{g:Obj}(h:fS tt N B E Pp st a w)(i:w.heap[b]? =some (.deferred (some [])))(d:¬own E st.o b)(l:B.w0.heap.size<=b):fS tt N B E Pp st a (w.putObj b g):=by
 have same:∀k,k≠b->(w.putObj b g).heap[k]? =w.heap[k]? :=λk hk=>World.putObj_heap_other hk;refine⟨h.wr.frame (λk hk=>same k (λe=>d (e▸hk))) (λ_ _ h=>h) (λ_ _ h=>.inl h) (λad v j=>?_),h.fk,h.size,h.defers,h.pre,h.rv,?_,h.jo,h.fresh⟩
 ·have hc:=h.wr.pi ad v j;rw[gF (same ad.block ?_)]
  ·exact hc
  ·intro e;simp[pc,e,i]at hc
 ·exact⟨h.fr.os,h.fr.tape,h.fr.output,by simpa[World.putObj]using h.fr.size,h.fr.drawn,λk hk m=>(same k yO).trans (h.fr.block k hk m)⟩
def HS{R:Ending->World->Prop}:∀(bs:List Nat)(w:World)(a:Act),bs.Nodup->(∀b∈bs,B.w0.heap.size<=b/\w.heap[b]? =some (.deferred (some []))/\¬own E st.o b)->fS tt N B E Pp st a w->
 (∀w',fS tt N B E Pp st a w'->∃v,(results fn a.tmps).run P w'= .ok v w'/\R (.returned v) w')->LeavesInM (kS none) 0 P fn a.tmps R (bs.map tc) .returning w
 |[],w,a,_,_,hs,h=>h w hs
 |b::bs,w,a,fR,hb,hs,h=>by rw[cw]at fR;obtain⟨h1,h2,h3⟩:=hb b yS;refine⟨yS,.inl ⟨b,w.putObj b (.deferred none),rfl,run_takeDeferred h2,?_⟩⟩;refine HS bs _ a fR.2 (λb' d=>?_) (hs.Hr h2 h3 h1) h;obtain⟨i,e,g⟩:=hb b' (by simp[d]);refine⟨i,?_,g⟩;rw[World.putObj_heap_other (by rintro rfl;exact fR.1 d)];exact e
def Ih(C:ec P G.tt)(H:P.follows .mixedOrders=true)(j:(fn.name== "runtime.NumGoroutine")=false)(hf:P.funcs[f]? =some fn)(hb:fn.body=some c)(y:objs.length=G.n0)(o:St)
 (q:∀E Pp w vals,WR G.tt E Pp objs w->eJ G.tt E Pp vals args->∃z,fS G.tt G.n { w0:=w,E0:=E,P0:=Pp,kI:=own E objs } z Pp o ⟨(⟨vals⟩:Array Value)++fj (fn.ntmps-(⟨vals⟩:Array Value).size) undef,[]⟩ w)
 (h:qU P G.tt G.n G.n0 none c o λe st=>match e with| .exit _=>False|_=>fin st)
 (m:∀{E Pp w E' Pp' i k w' d},WR G.tt E Pp objs w->fin i->fS G.tt G.n { w0:=w,E0:=E,P0:=Pp,kI:=own E objs,d0:=d } E' Pp' i k w'->∃v,(results fn k.tmps).run P w'= .ok v w'/\kE G.tt E Pp objs w K (.returned v) w'):FC P G.tt f objs args K:=by
 intro E Pp w vals u D;obtain⟨z,s⟩:=q E Pp w vals u D;refine .inl ⟨mn hf hb j,?_⟩;refine callsIn_wide.1 (callsIn_of_wp_marks (F:=kS none) (n:=0) hf hb trivial (wpIn_mono (h _ z Pp _ w (by rw[<- y];exact u.len) s) ?_));rintro e k w' ⟨A,i,E',Pp',he,p,⟨bs,l,fR,g⟩,_,t⟩;rw[cA]at l;have go:fin i->LeavesInM (kS none) 0 P fn k.tmps (kE G.tt E Pp objs w K) k.defers .returning w':=by intro hr;have:=HS (fn:=fn) (R:=kE G.tt E Pp objs w K) bs w' k fR (λb hb=>⟨(g b hb).1,(g b hb).2.2.1,(g b hb).2.2.2⟩) p (λI x=>m u hr x);rw[l];exact this
 cases e<;>cases A<;>simp only[pn]at he
 ·exact go t
 ·exact t.elim
 ·exact go t
def Cp(q:∀c st Q,LP c st Q->qU P G.tt G.n G.n0 none c st Q)(k:ec P G.tt)(n:P.follows .mixedOrders=true)(b:(fn.name== "runtime.NumGoroutine")=false)(hf:P.funcs[f]? =some fn)(hb:fn.body=some c)(m:objs.length=G.n0)(g:St)
 (l:∀E Pp w vals,WR G.tt E Pp objs w->eJ G.tt E Pp vals args->∃p,fS G.tt G.n { w0:=w,E0:=E,P0:=Pp,kI:=own E objs } p Pp g ⟨(⟨vals⟩:Array Value)++fj (fn.ntmps-(⟨vals⟩:Array Value).size) undef,[]⟩ w)
 (h:mC dz G (jT P G.tt) LP c g λe st=>match e with| .exit _=>False|_=>fin st)
 (j:∀{E Pp w E' Pp' i o w' d},WR G.tt E Pp objs w->fin i->fS G.tt G.n { w0:=w,E0:=E,P0:=Pp,kI:=own E objs,d0:=d } E' Pp' i o w'->∃v,(results fn o.tmps).run P w'= .ok v w'/\kE G.tt E Pp objs w K (.returned v) w'):FC P G.tt f objs args K:=
 Ih k n b hf hb m g l (o9 k n q c _ _ h) j
def Ko(m:fn.ntmps=G.n)(d:ir (ch args) G.n=true):∀E Pp w vals,WR G.tt E Pp [] w->eJ G.tt E Pp vals args->∃l,fS G.tt G.n { w0:=w,E0:=E,P0:=Pp,kI:=own E [] } l Pp ⟨lR 0 args,[]⟩ ⟨(⟨vals⟩:Array Value)++fj (fn.ntmps-(⟨vals⟩:Array Value).size) undef,[]⟩ w:=by intro E Pp w vals g e;have j:=e.length;rw[cI]at d;have k:=dK d;exact⟨E,g,D7 e,yQ,rfl,.refl _,λ_ _ h=>h,Fr.refl _ _,λad v h=>.inl h,λi o ri b h=>yE h⟩
def R7(m:ec P G.tt)(s:P.follows .mixedOrders=true)(j:(fn.name== "runtime.NumGoroutine")=false)(hf:P.funcs[f]? =some fn)(hb:fn.body=some c)(z:fn.ntmps=G.n)(n:G.n0=0)(l:ir (ch args) G.n=true)
 (h:qU P G.tt G.n G.n0 none c ⟨lR 0 args,[]⟩ λe st=>match e with| .exit _=>False|_=>BK G 0 fn.results.toList st K):FC P G.tt f [] args K:=by
 refine Ih m s j hf hb n.symm _ (Ko z l) h ?_;intro E Pp w E' Pp' k C w' d q hr g;have t:E=[]:=bY (by rw[q.len];rfl);subst t;unfold BK at hr;split at hr
 ·rename_i p x;obtain⟨v,h1,h2⟩:=tI m g x;refine⟨v,h1,v,[],gK G.tt E' k.o w' Pp' (ids k.o 8 p),[],_,rfl,.refl _,λad u hu=>.inl (g.rv ad u hu),?_,sS g.wr 8 _ _ h2 (λi A=>A),hr,g.fr,?_,λi o ri b h=>yE h⟩
  ·exact WR.nil (λad u hu=>D9 g.wr hu) (g.wr.SN λ_ _ y=>.inl y)
  ·intro ad u hu;rcases AQ hu with h3|⟨i,o,ri,h3,h4,h5,h6⟩
   ·exact g.jo ad u h3
   ·exact .inr (g.fresh i o ri _ h3 h4 h5 h6)
 ·exact hr.elim
def Ql(g:ec P G.tt)(j:P.follows .mixedOrders=true)(b:(fn.name== "runtime.NumGoroutine")=false)(hf:P.funcs[f]? =some fn)(hb:fn.body=some c)(l:fn.ntmps=G.n)(i:G.n0=0)(d:ir (ch args) G.n=true)
 (k:∀c st Q,LP c st Q->qU P G.tt G.n G.n0 none c st Q)
 (h:mC dz G (jT P G.tt) LP c ⟨lR 0 args,[]⟩ λe st=>match e with| .exit _=>False|_=>BK G 0 fn.results.toList st K):FC P G.tt f [] args K:=
 R7 g j b hf hb l i d (o9 g j k c _ _ h)
def tN(A:WR tt E Pp st.o w):∀{l:List PV}{k:Nat}{vs:List Value}{ps:List PV}{s:List Nat}{E0:List RI},vS n0 st k l=some (ps,s)->eJ tt E Pp vs l->E0.length=k->
 eJ tt (E0++s.map (λr=>E.getD r .row0)) Pp vs ps/\∀r∈s,n0<=r/\∃o,st.o[r]? =some o/\ll o=true/\o.live=true
 |[],k,vs,ps,s,E0,h,D,_=>by simp[vS]at h;obtain⟨rfl,rfl⟩:=h;cases D;exact⟨.nil,λr hr=>yE hr⟩
 |p::l,k,vs,ps,s,E0,h,D,t=>by
  cases D with
  |cons v _ vs _ x u=>
  have m:(bif eu (ids st.o 8 p)then(match vS n0 st k l with|some (ps,s)=>some (ng st.o 8 p::ps,s)|none=>none)else none)=some (ps,s)->
   eJ tt (E0++s.map (λr=>E.getD r .row0)) Pp (v::vs) ps/\∀r∈s,n0<=r/\∃o,st.o[r]? =some o/\ll o=true/\o.live=true:=by
   intro h;cases hb:eu (ids st.o 8 p)with
   |false=>rw[hb]at h;simp at h
   |true=>
    rw[hb]at h;simp only[cond_true]at h;split at h
    ·rename_i z b g;simp at h;obtain⟨rfl,rfl⟩:=h;obtain⟨h1,h2⟩:=tN A g u t;refine⟨.cons _ _ _ _ ?_ h1,h2⟩;have H:=sS A (F:=[]) 8 p v x (λi I=>by rw[j6 hb]at I;exact I);exact(H.mono (λ_ _ h=>h) (λ_ _=>oF)).of_nil _
    ·simp at h
  have n:∀(r:Nat) ri,E[r]? =some ri->E.getD r .row0=ri:=λr ri h=>by simp[cc,h]
  have hk:∀(r:Nat)(b:List Nat),(E0++(r::b).map (λr=>E.getD r .row0))[k]? =some (E.getD r .row0):=λr b=>by rw[cp yO,t];simp
  have q:∀(r:Nat)(b:List Nat),(E0++[E.getD r .row0])++b.map (λr=>E.getD r .row0)=E0++(r::b).map (λr=>E.getD r .row0):=λr b=>yS;simp only[vS]at h;split at h
  ·rename_i e r;split at h
   ·rename_i e' d C;cases hb:(nb e e'&&ir n0 r)with
    |false=>rw[hb]at h;simp at h
    |true=>
     rw[hb]at h;simp only[cond_true]at h;simp only[bw]at hb;split at h
     ·rename_i z b g;simp at h;obtain⟨rfl,rfl⟩:=h;obtain⟨h1,h2⟩:=tN (E0:=E0++[E.getD r .row0]) A g u (by simp[t]);rw[q]at h1;refine⟨.cons _ _ _ _ ?_ h1,?_⟩
      ·cases x with
       |row0 _ _ y=>exact .row0 _ _ (by rw[hk,n r _ y])
       |row _ _ _ _ _ _ y=>exact .row _ _ _ _ _ _ (by rw[hk,n r _ y])
      ·intro r' j;rcases bN.1 j with rfl|j
       ·exact⟨dK hb.2,_,cT C rfl,rfl,rfl⟩
       ·exact h2 r' j
     ·simp at h
   ·simp at h
  ·rename_i r;split at h
   ·rename_i kc e d C;cases hb:ir n0 r with
    |false=>rw[hb]at h;simp at h
    |true=>
     rw[hb]at h;simp only[cond_true]at h;split at h
     ·rename_i z b g;simp at h;obtain⟨rfl,rfl⟩:=h;obtain⟨h1,h2⟩:=tN (E0:=E0++[E.getD r .row0]) A g u (by simp[t]);rw[q]at h1;refine⟨.cons _ _ _ _ ?_ h1,?_⟩
      ·cases x with
       |mp _ _ _ _ y=>exact .mp _ _ _ _ (by rw[hk,n r _ y])
      ·intro r' j;rcases bN.1 j with rfl|j
       ·exact⟨dK hb,_,cT C rfl,rfl,rfl⟩
       ·exact h2 r' j
     ·simp at h
   ·simp at h
  ·exact m h
def R6(O:ec P G.tt)(hm:P.follows .mixedOrders=true)(F:(fn.name== "runtime.NumGoroutine")=false)(hf:P.funcs[f]? =some fn)(hb:fn.body=some c)(hN:fn.ntmps=G.n)(Y:G.n0=0)(J:ir (ch args) G.n=true)
 (h:mC dz G (jT P G.tt) (λc st Q=>qU P G.tt G.n G.n0 none c st Q) c ⟨lR 0 args,[]⟩ λe st=>match e with| .exit _=>False|_=>wC G 0 fn.results.toList st K):FC P G.tt f [] args K:=by
 refine Cp (λ_ _ _ h=>h) O hm F hf hb Y.symm _ (Ko hN J) h ?_;intro E Pp w E' Pp' l a' w' d hw hr g;have hE:E=[]:=bY (by rw[hw.len];rfl);subst hE
 have key:∀(l:St)(Pp':fE),fS G.tt G.n { w0:=w,E0:=[],P0:=Pp,kI:=own [] [],d0:=d } E' Pp' l a' w'->BJ G 0 fn.results.toList l K->∃v,Sem.run P (results fn a'.tmps) w'=Result.ok v w'/\kE G.tt [] Pp [] w K (Ending.returned v) w':=by
  clear g hr;intro l Pp' g hr;unfold BJ at hr;split at hr
  ·rename_i p hp;obtain⟨v,h1,h2⟩:=tI O g hp;split at hr
   ·rename_i ps C R;cases fR:jz C with
    |false=>rw[fR]at hr;exact hr.elim
    |true=>
     rw[fR]at hr;simp only[cond_true]at hr;have fR:=oy fR
     have parts:∃vs,eJ G.tt E' Pp' vs (partsOf p).1/\∀E2 ps,eJ G.tt E2 Pp' vs ps->ps.length=(partsOf p).1.length->VR G.tt E2 Pp' v (G2 (partsOf p).2 ps):=by
      cases p with
      |tup cs=>
       cases h2 with
       |tup us _ hl=>exact⟨us,hl,λE2 ps h _=>.tup _ _ h⟩
      |_=>
       refine⟨[v],.cons _ _ _ _ h2 .nil,λE2 ps h hl=>?_⟩;cases h with
       |cons _ q _ _ h3 h4=>cases h4;exact h3
     obtain⟨vs,S,t⟩:=parts;obtain⟨h3,h4⟩:=tN (E0:=[]) g.wr R S rfl;rw[jg]at h3;have z:∀(j:Nat) r,C[j]? =some r->∀ri,E'[r]? =some ri->(C.map (λr=>E'.getD r .row0))[j]? =some ri:=by intro j r m ri k;simp[m,cc,k]
     have y:∀(j:Nat) o,(cS (ew l.o) C)[j]? =some o->∃r,C[j]? =some r/\l.o[r]? =some o/\ll o=true/\o.live=true:=by
      intro j o m;rw[gG,cu]at m;cases X:C[j]? with
      |none=>rw[X]at m;simp at m
      |some r=>
       rw[X]at m;simp at m;obtain⟨_,o',s,A,I⟩:=h4 r (fi X);have:ew l.o r=o':=by rw[rJ];simp[cc,s]
       rw[this]at m;subst m;exact⟨r,rfl,s,A,I⟩
     refine⟨v,h1,v,C.map (λr=>E'.getD r .row0),Pp',cS (ew l.o) C,_,rfl,λi x h=>yE h,λad u hu=>g.rv ad u hu,?_,t _ _ h3 (by rw[<- h3.length,<-S.length]),hr,g.fr,g.jo,?_⟩
     ·refine⟨by simp[gG],g.wr.pi,?_,?_,g.wr.gl⟩
      ·intro j o m hl;obtain⟨r,s,A,I,D⟩:=y j o m;obtain⟨ri,k,W⟩:=g.wr.ob r o A D;exact⟨ri,z j r s ri k,W.goes I D⟩
      ·intro i j oi oj ri rj b hi m al ak L n U Z;obtain⟨r,s,A,I,D⟩:=y i oi hi;obtain⟨r',p1,p2,p3,p4⟩:=y j oj m;obtain⟨ri',k,_⟩:=g.wr.ob r oi A D;obtain⟨V,H,_⟩:=g.wr.ob r' oj p2 p4;rw[z i r s ri' k]at L;cases L;rw[z j r' p1 V H]at n;cases n;have:=g.wr.sep r r' oi oj ri rj b A p2 D p4 k H U Z;subst this;exact uV fR s p1
     ·intro j o ri b m hl n hb;obtain⟨r,s,A,I,D⟩:=y j o m;obtain⟨ri',k,_⟩:=g.wr.ob r o A D;rw[z j r s ri' k]at n;cases n;exact g.fresh r o ri b A D k hb
   ·exact hr.elim
  ·exact hr.elim
 unfold wC at hr;split at hr
 ·rename_i p0 ah;obtain⟨ac,M,_,T,_⟩:=tz (BS p0) g.EX g.fk;exact key _ _ (cL.JP M T g.size g.defers) hr
 ·exact hr.elim
end
end
section
variable [Inhabited pB]
open Go
def xK:PV->PV->Prop
 |_,.undef=>True
 | .bl a,.bool b=>a=b
 | .nx e d,.lst e' d'=>e=e'/\d=d'
 | .lst e d,.lst e' d'=>e=e'/\d=d'
 | .int k n,.int k' n'=>k=k'/\n=n'
 | .bool a,.bool b=>a=b
 | .str a,.str b=>a=b
 | .nilp,.dptr _ d=>d= .nil
 |p,q=>p=q
def Hq:List PV->List PV->Prop
 |[],[]=>True
 |p::ps,q::b=>xK p q/\Hq ps b
 |_,_=>False
def Fp(s:cU):cU->Prop
 |[]=>True
 |(t,q)::r=>xK (look s t) q/\Fp s r
def I0:Ob->Ob->Prop
 |_,.dead=>True
 | .box cs,.box f=>Hq cs f
 | .row e d b,.row e' d' b'=>e=e'/\d=d'/\b=b'
 | .map k e d,.map k' e' d'=>k=k'/\e=e'/\d=d'
 | .iter m s,.iter m' s'=>m=m'/\s=s'
 | .diter e d s,.diter e' d' s'=>e=e'/\d=d'/\s=s'
 | .loop n ps a c s j,.loop n' h l o s' i=>n=n'/\ps=h/\a=l/\c=o/\Fp s s'/\j=i
 |_,_=>False
def NQ:List Ob->List Ob->Prop
 |_,[]=>True
 |o::os,q::b=>I0 o q/\NQ os b
 |[],_::_=>False
def oC(n:Nat):Nat->PV->Bool
 |0,_=>false
 |k+1,p=>match p with
  | .agg cs=>gE (oC n k) cs
  | .tup cs=>gE (oC n k) cs
  | .cy _ cs=>gE (oC n k) cs
  | .cP cs _=>gE (oC n k) cs
  | .box b _=>gZ b n
  | .row _ b=>gZ b n
  | .fH _ b _ _=>gZ b n
  | .mp b=>gZ b n
  | .it b=>gZ b n
  | .j9 b=>gZ b n
  |_=>true
def F0(n:Nat):cU->Bool
 |[]=>true
 |(_,p)::s=>oC n 8 p&&F0 n s
def yk(n:Nat):List Ob->Bool
 |[]=>true
 | .box cs::l=>gE (oC n 8) cs&&yk n l
 | .iter m _::l=>gZ m n&&yk n l
 | .loop _ _ _ _ s _::l=>F0 n s&&yk n l
 |_::l=>yk n l
def Sub(n0:Nat)(st g:St):Prop:=(F0 (ch g.o) g.s&&yk (ch g.o) g.o&&ir n0 (ch g.o))=true/\Fp st.s g.s/\NQ st.o g.o
section
variable {P:Program}{tt:TypeId->Option TI}{N n0:Nat}{B:jc}{E:List RI}{Pp:fE}{w:World}{st:St}{a:Act}
variable {n:Nat}{α:Type}{args:List PV}{K:PV->List Ob->Prop}{p q:PV}{s:cU}{g:St}
def wF{v:Value}(h:xK p q)(b:VR tt E Pp v p):VR tt E Pp v q:=by
 unfold xK at h;split at h
 ·exact .undef _
 ·subst h;cases b;exact .bool _
 ·obtain⟨rfl,rfl⟩:=h;cases b with
  |nx _ _ _ _ hr=>exact .lst _ _ _ hr
 ·obtain⟨rfl,rfl⟩:=h;exact b
 ·obtain⟨rfl,rfl⟩:=h;exact b
 ·subst h;exact b
 ·subst h;exact b
 ·subst h;cases b;exact .dptr _ _ _ (.zG _)
 ·subst h;exact b
def xJ:∀{ps c:List PV}{vs:List Value},Hq ps c->eJ tt E Pp vs ps->eJ tt E Pp vs c
 |[],[],_,_,b=>b
 |p::ps,q::c,vs,h,b=>by
  cases b with
  |cons _ _ _ _ h1 h2=>exact .cons _ _ _ _ (wF h.1 h1) (xJ h.2 h2)
 |[],_::_,_,h,_=>h.elim
 |_::_,[],_,h,_=>h.elim
def yj:∀(k:Nat)(p:PV)(v:Value),oC n k p=true->VR tt E Pp v p->VR tt (E.take n) Pp v p:=by
 intro k;induction k with
 |zero=>intro p v h;simp[oC]at h
 |succ k j=>
  have get:∀(b:Nat)(x:RI),gZ b n=true->E[b]? =some x->(E.take n)[b]? =some x:=by intro b x hb l;rw[cK (dK hb)];exact l
  have d:∀(cs:List PV)(vs:List Value),gE (oC n k) cs=true->eJ tt E Pp vs cs->eJ tt (E.take n) Pp vs cs:=by
   intro cs;induction cs with
   |nil=>intro vs _ e;cases e;exact .nil
   |cons c cs i=>
    intro vs h e;simp only[gE,bw]at h;cases e with
    |cons _ _ _ _ h1 h2=>exact .cons _ _ _ _ (j _ _ h.1 h1) (i _ h.2 h2)
  intro p v h e;cases e with
  |undef=>exact .undef _
  |int=>exact .int _ _
  |bl=>exact .bl _
  |bool=>exact .bool _
  |str=>exact .str _
  |lst _ _ _ hr=>exact .lst _ _ _ hr
  |nx _ _ _ _ hr=>exact .nx _ _ _ _ hr
  |agg vs cs hl=>exact .agg _ _ (d _ _ h hl)
  |tup vs cs hl=>exact .tup _ _ (d _ _ h hl)
  |box _ b _ _ hb hu=>exact .box _ _ _ _ (get _ _ h hb) hu
  |row0 _ b hb=>exact .row0 _ _ (get _ _ h hb)
  |row _ b _ _ _ _ hb=>exact .row _ _ _ _ _ _ (get _ _ h hb)
  |fH _ _ b _ _ _ _ _ _ hb h0 h1=>exact .fH _ _ _ _ _ _ _ _ _ (get _ _ h hb) h0 h1
  |js _ _ _ _ _ _ _ _ hr h0 h1=>exact .js _ _ _ _ _ _ _ _ hr h0 h1
  |cP u vs cs off b o hu hl gR=>exact .cP _ _ _ _ _ _ hu (d _ _ h hl) gR
  |dptr _ _ _ hr=>exact .dptr _ _ _ hr
  |dmp _ _ _ _ hr=>exact .dmp _ _ _ _ hr
  |rK _ _ _ _ _ hr=>exact .rK _ _ _ _ _ hr
  |cy u f vs cs hu hl=>exact .cy _ _ _ _ hu (d _ _ h hl)
  |nilp=>exact .nilp
  |nilm=>exact .nilm
  |lf=>exact .lf
  |nilf=>exact .nilf
  |mp b _ _ _ hb=>exact .mp _ _ _ _ (get _ _ h hb)
  |it b _ hb=>exact .it _ _ (get _ _ h hb)
  |j9 b _ hb=>exact .j9 _ _ (get _ _ h hb)
def HO{k:Nat}{cs:List PV}{vs:List Value}(h:gE (oC n k) cs=true)(b:eJ tt E Pp vs cs):eJ tt (E.take n) Pp vs cs:=by
 induction cs generalizing vs with
 |nil=>cases b;exact .nil
 |cons c cs d=>
  simp only[gE,bw]at h;cases b with
  |cons _ _ _ _ h1 h2=>exact .cons _ _ _ _ (yj k _ _ h.1 h1) (d h.2 h2)
def AJ(h:F0 n s=true)(t:Nat):oC n 8 (look s t)=true:=by
 induction s with
 |nil=>rfl
 |cons x s b=>
  obtain⟨k,p⟩:=x;simp only[F0,bw]at h;rw[iK];split
  ·exact h.1
  ·exact b h.2
def DO:∀{l:List Ob}{i:Nat}{o:Ob},yk n l=true->l[i]? =some o->(∀cs,o= .box cs->gE (oC n 8) cs=true)/\(∀m s,o= .iter m s->m<n)/\(∀k ps a c s j,o= .loop k ps a c s j->F0 n s=true)
 |[],i,o,_,d=>yE d
 |x::l,i,o,h,d=>by
  cases i with
  |zero=>
   simp at d;subst d;refine⟨?_,?_,?_⟩
   ·intro cs b;subst b;simp only[yk,bw]at h;exact h.1
   ·intro m s b;subst b;simp only[yk,bw]at h;exact dK h.1
   ·intro k ps a c s j b;subst b;simp only[yk,bw]at h;exact h.1
  |succ i=>
   have hl:yk n l=true:=by cases x<;>simp_all[yk]
   exact DO hl (yU d)
def xm:∀{l k:List Ob}{i:Nat}{q:Ob},NQ l k->k[i]? =some q->∃o,l[i]? =some o/\I0 o q
 |_,[],i,q,_,h=>yE h
 |[],_::_,_,_,h,_=>h.elim
 |o::os,q::d,i,c,h,b=>by
  cases i with
  |zero=>simp at b;subst b;exact⟨o,rfl,h.1⟩
  |succ i=>simpa using xm h.2 (yU b)
def C3:∀{l k:List Ob},NQ l k->k.length<=l.length
 |_,[],_=>yS
 |[],_::_,h=>h.elim
 |o::os,q::b,h=>by simpa using C3 h.2
def rb:∀{r:cU},Fp s r->∀t,xK (look s t) (look r t)
 |[],_,t=>by simp[look,xK]
 |(k,q)::r,h,t=>by
  rw[iK];split
  ·rename_i hk;subst hk;exact h.1
  ·exact rb h.2 t
def KO(h:xK p q)(c:pa q=true):pa p=true:=by
 cases q with
 |nilp=>cases p<;>first|rfl|(simp only[xK]at h;cases h)
 |box b off=>cases p<;>first|rfl|(simp only[xK]at h;cases h)
 |_=>cases c
def IQ:∀{ps e:List PV},Hq ps e->nB e=true->nB ps=true
 |_,[],_,h=>yC h
 |_,[_],_,h=>yC h
 |[],_::_::_,h,_=>h.elim
 |[_],[_,_],h,_=>h.2.elim
 |[a,b],[c,d],h,hb=>KO (p:=a) (q:=c) h.1 hb
 |_::_::_::_,[_,_],h,_=>h.2.2.elim
 |_,_::_::_::_,_,h=>yC h
def OR.le{ri:RI}{o q:Ob}(h:I0 o q)(hl:q.live=true)(i:(∀cs,q= .box cs->gE (oC n 8) cs=true)/\(∀m s,q= .iter m s->m<n)/\(∀k ps a c s j,q= .loop k ps a c s j->F0 n s=true))(f:OR tt E Pp w ri o):o.live=true/\OR tt (E.take n) Pp w ri q:=by
 cases o<;>cases q<;>simp only[I0]at h<;>simp[Ob.live]at hl
 case box.box cs u=>
  refine⟨rfl,?_⟩;cases ri<;>simp only[OR]at f ⊢
  ·obtain⟨vs,T,h1,h2,h3,h4⟩:=f;exact⟨vs,T,h1,HO (i.1 _ rfl) (xJ h h2),h3,λhb=>h4 (IQ h hb)⟩
  ·exact f.imp λ_ a=>⟨a.1,HO (i.1 _ rfl) (xJ h a.2.1),a.2.2⟩
 case row.row e d b e' d' b'=>obtain⟨rfl,rfl,rfl⟩:=h;exact⟨rfl,by cases ri<;>exact f⟩
 case map.map k e d k' e' d'=>obtain⟨rfl,rfl,rfl⟩:=h;exact⟨rfl,by cases ri<;>exact f⟩
 case iter.iter m s m' s'=>
  obtain⟨rfl,rfl⟩:=h;refine⟨rfl,?_⟩;cases ri<;>try exact f.elim
  obtain⟨l,borns,clock,x,h1,h2⟩:=f;exact⟨l,borns,clock,x,by rw[cK (i.2.1 _ _ rfl)];exact h1,h2⟩
 case diter.diter e d s e' d' s'=>obtain⟨rfl,rfl,rfl⟩:=h;exact⟨rfl,by cases ri<;>exact f⟩
 case loop.loop k ps a c s j k' v z A s' y=>
  obtain⟨rfl,rfl,rfl,rfl,h5,rfl⟩:=h;refine⟨rfl,?_⟩;cases ri<;>try exact f.elim
  obtain⟨r,h1,h2,h3⟩:=f;exact⟨r,h1,h2,λt=>yj 8 _ _ (AJ (i.2.2 _ _ _ _ _ _ rfl) t) (wF (rb h5 t) (h3 t))⟩
def fS.sub(hb:B.E0.length=n0)(h:fS tt N B E Pp st a w)(hs:Sub n0 st g):fS tt N B (E.take g.o.length) Pp g a w:=by
 obtain⟨hc,h1,h2⟩:=hs;simp only[bw,cI]at hc;obtain⟨⟨c1,c2⟩,L⟩:=hc;have L:=dK L;have J:=C3 h2
 have get:∀(i:Nat)(x:RI),(E.take g.o.length)[i]? =some x->E[i]? =some x:=by
  intro i x c;rw[n5]at c;split at c
  ·exact c
  ·simp at c
 have live:∀(i:Nat) q,g.o[i]? =some q->q.live=true->∃o ri,st.o[i]? =some o/\o.live=true/\E[i]? =some ri/\(E.take g.o.length)[i]? =some ri/\OR tt (E.take g.o.length) Pp w ri q:=by
  intro i q e hl;obtain⟨o,m,F⟩:=xm h2 e;have k:o.live=true:=by cases o<;>cases q<;>simp_all[I0,Ob.live]
  obtain⟨ri,l,z⟩:=h.wr.ob i o m k;obtain⟨_,f⟩:=OR.le F hl (DO c2 e) z
  have c8:i<g.o.length:=by
   rcases bV i g.o.length with d|d
   ·exact d
   ·rw[ca d]at e;simp at e
  exact⟨o,ri,m,k,l,by rw[cK c8];exact l,f⟩
 refine⟨⟨by simp[h.wr.len];omega,h.wr.pi,?_,?_,h.wr.gl⟩,?_,h.size,h.defers,?_,h.rv,h.fr,h.jo,?_⟩
 ·intro i q e hl;obtain⟨_,ri,_,_,_,h4,h5⟩:=live i q e hl;exact⟨ri,h4,h5⟩
 ·intro i j oi oj ri rj b M S G D I C v H;obtain⟨o,r,h3,h4,h5,h6,_⟩:=live i oi M G;obtain⟨o',r',A,u,O,Q,_⟩:=live j oj S D;exact h.wr.sep i j o o' ri rj b h3 A h4 u (get _ _ I) (get _ _ C) v H
 ·intro t;exact yj 8 _ _ (AJ c1 t) (wF (rb h1 t) (h.fk t))
 ·intro i x c
  have M:i<B.E0.length:=by
   rcases bV i B.E0.length with d|d
   ·exact d
   ·rw[ca d]at c;simp at c
  rw[cK yO];exact h.pre i x c
 ·intro i o ri b m hl R y;obtain⟨o',r,h3,h4,h5,_,_⟩:=live i o m hl;exact h.fresh i o' ri b h3 h4 (get _ _ R) y
def zW{r:Option Nat}{c:Code}{Q:Exit->Act->World->Prop}(I:α->Act->World->Prop)(C:α->Nat)(F:α)(z:I F a w)
 (round:∀x a w,I x a w->c.wpIn (kS r) 0 P (Exit.then (λu w'=>∃G,I G u w'/\C G<C x) Q) a w):(Code.loop c).wpIn (kS r) 0 P Q a w:=by
 intro b k cs D hb hr
 have key:∀n x a w,C x=n->I x a w->
  ∃e u w',Q e u w'/\ArrivesIn (Machine.fenced P (kS r)) P (lone (b.atR a (.code c:: .inLoop c::k)) cs w) b k cs e u w':=by
  intro n;induction n using Cu with
  |_ n L=>
   intro x a w J H;obtain⟨e,h,f,j,d⟩:=round x a w H b (.inLoop c::k) cs D hb hr;cases e with
   |normal=>obtain⟨m,t,c8⟩:=j;obtain⟨v,y,A,o,i⟩:=L (C m) (J▸c8) m h f rfl t;exact⟨v,y,A,o,.of_steps (StepsIn.trans d (.one (fenced_calm hb hr rfl) stepR_inLoop)) i⟩
   |exit id=>exact⟨_,h,f,j,.pass (x:=.inLoop c) rfl (λ_ _=>.inl yS) d⟩
   |goto l=>exact⟨_,h,f,j,.pass (x:=.inLoop c) rfl (λ_ _=>.inl yS) d⟩
   |ret=>exact⟨_,h,f,j,.pass (x:=.inLoop c) rfl (λ_ _=>.inl yS) d⟩
   |panic M=>exact⟨_,h,f,j,.pass (x:=.inLoop c) rfl (λ_ _=>.inl yS) d⟩
   |outgrown=>exact⟨_,h,f,j,.pass (x:=.inLoop c) rfl (λ_ _=>.inl yS) d⟩
 obtain⟨e,u,w',j,d⟩:=key _ F a w rfl z;exact⟨e,u,w',j,.of_steps (.one (fenced_calm hb hr rfl) stepR_loop) d⟩
def Mk.sub{d d':List Deferred}{w0 w:World}{E2:List RI}{o o2:List Ob}(m:Mk w0 d E o d' w)(h:∀b,own E2 o2 b->own E o b):Mk w0 d E2 o2 d' w:=by obtain⟨bs,h1,h2,h3⟩:=m;exact⟨bs,h1,h2,λb hb=>⟨(h3 b hb).1,(h3 b hb).2.1,(h3 b hb).2.2.1,λc=>(h3 b hb).2.2.2 (h b c)⟩⟩
def yl{r:Option Nat}{c:Code}{Q:Ex->St->Prop}(o:St->St->Prop)
 (d:∀{B:jc}{E:List RI}{Pp:fE}{st g:St}{a:Act}{w:World},B.E0.length=n0->fS tt N B E Pp st a w->o st g->∃E',fS tt N B E' Pp g a w/\∀b,own E' g.o b->own E st.o b)
 (I:α->St) (u:α->Prop) (y:α->Nat) (v:α) (h0:u v) (A:o st (I v))
 (round:∀x,u x->qU P tt N n0 r c (I x) λe l=>match e with| .normal=>∃t,u t/\y t<y x/\o l (I t)| .exit i=>Q (.exit i) l| .ret=>Q .ret l):qU P tt N n0 r (.loop c) st Q:=by
 intro B E Pp a w hb hs;obtain⟨T,F,_⟩:=d hb hs A;refine zW (λx D w'=>∃E Pp,u x/\fS tt N (B.at D.defers) E Pp (I x) D w'/\Mk w a.defers E (I x).o D.defers w'/\w.heap.size<=w'.heap.size) y v ⟨T,Pp,h0,F.at,Mk.none rfl,cg _⟩ ?_;rintro x a1 H ⟨E,Pp,R,hs,S,hz⟩;refine wpIn_mono (round x R (B.here E Pp (I x).o a1.defers H) E Pp a1 H hb hs.here) ?_;rintro e a2 U ⟨J,g,E2,f,he,k,L,C,G⟩;have m:=fS.back (B:=B.at a1.defers) hs k;have h:=Mk.trans hz S k L;have j:=bQ hz C;cases e<;>cases J<;>simp only[pn]at he
 ·obtain⟨t,h1,h2,h3⟩:=G;obtain⟨M,z,O⟩:=d (B:=B.at a2.defers) hb m h3;exact⟨t,⟨M,f,h1,z,h.sub O,j⟩,h2⟩
 ·subst he;exact⟨.exit _,g,E2,f,rfl,m,h,j,G⟩
 ·exact⟨.ret,g,E2,f,trivial,m,h,j,G⟩
theorem Sub.own(hs:Sub n0 st g):∀b,own (E.take g.o.length) g.o b->VC.own E st.o b:=by
 rintro b ⟨i,q,ri,h1,h2,h3,h4⟩;obtain⟨o,c,d⟩:=xm hs.2.2 h1;refine⟨i,o,ri,c,?_,?_,h4⟩
 ·cases o<;>cases q<;>simp_all[I0,Ob.live]
 ·rw[n5]at h3;split at h3
  ·exact h3
  ·simp at h3
def I7{r:Option Nat}{c:Code}{Q:Ex->St->Prop}(I:α->St)(d:α->Prop)(k:α->Nat)(j:α)(h0:d j)(f:Sub n0 st (I j))
 (round:∀x,d x->qU P tt N n0 r c (I x) λe b=>match e with| .normal=>∃l,d l/\k l<k x/\Sub n0 b (I l)| .exit i=>Q (.exit i) b| .ret=>Q .ret b):qU P tt N n0 r (.loop c) st Q:=
 yl (Sub n0) (λhb h hk=>⟨_,h.sub hb hk,hk.own⟩) I d k j h0 f round
def Std:pM:=dz
structure Ctx (P:Program) (G:ea) (A:pM) (C:iZ) (L:Code->St->(Ex->St->Prop)->Prop):Prop where
 a:A=Std
 c:C=jT P G.tt
 l:∃r:Option Nat,(G.Cz=false->r=none)/\L=(λc st Q=>qU P G.tt G.n G.n0 r c st Q)
 tt:ec P G.tt
 m:P.follows .mixedOrders=true
structure Has (P:Program) (f:FuncId) (fn:Func) (c:Code):Prop where
 f:P.funcs[f]? =some fn
 name:(fn.name== "runtime.NumGoroutine")=false
 b:fn.body=some c
def FC.enter{G:ea}(d:ec P G.tt)(j:P.follows .mixedOrders=true){f:FuncId}{fn:Func}{c:Code}(hf:Has P f fn c)(k:fn.ntmps=G.n)(i:G.n0=0)(b:ir (ch args) G.n=true)
 (h:∀(A:pM)(C:iZ)(L:Code->St->(Ex->St->Prop)->Prop),Ctx P G A C L->
   mC A G C L c ⟨lR 0 args,[]⟩ λe st=>match e with| .exit _=>False|_=>BK G 0 fn.results.toList st K):FC P G.tt f [] args K:=
 Ql d j hf.name hf.f hf.b k i b (λ_ _ _ h=>h) (h _ _ _ ⟨rfl,rfl,⟨_,λ_=>rfl,rfl⟩,d,j⟩)
def FC.L1{G:ea}(d:ec P G.tt)(j:P.follows .mixedOrders=true){f:FuncId}{fn:Func}{c:Code}(hf:Has P f fn c)(k:fn.ntmps=G.n)(i:G.n0=0)(b:ir (ch args) G.n=true)
 (h:∀(A:pM)(C:iZ)(L:Code->St->(Ex->St->Prop)->Prop),Ctx P G A C L->
   mC A G C L c ⟨lR 0 args,[]⟩ λe st=>match e with| .exit _=>False|_=>wC G 0 fn.results.toList st K):FC P G.tt f [] args K:=
 R6 d j hf.name hf.f hf.b k i b (h _ _ _ ⟨rfl,rfl,⟨_,λ_=>rfl,rfl⟩,d,j⟩)
def Ctx.loop{G:ea}{A:pM}{C:iZ}{L:Code->St->(Ex->St->Prop)->Prop}(X:Ctx P G A C L)
 (I:α->St) (d:α->Prop) (j:α->Nat) (h:α) {c:Code}{st:St}{Q:Ex->St->Prop} (h0:d h) (f:Sub G.n0 st (I h))
 (round:∀x,d x->mC A G C L c (I x) λe b=>match e with| .normal=>∃k,d k/\j k<j x/\Sub G.n0 b (I k)| .exit i=>Q (.exit i) b| .ret=>Q .ret b):L (.loop c) st Q:=by
 obtain⟨rfl,rfl,⟨r,_,rfl⟩,l,m⟩:=X;exact I7 I d j h h0 f λx o=>FJ l m c _ _ (round x o)
def Ctx.call{G:ea}{A:pM}{C:iZ}{L:Code->St->(Ex->St->Prop)->Prop}(X:Ctx P G A C L){f:FuncId}{objs:List Ob}(h:FC P G.tt f objs args K):C (.fn f) objs args K:=by rw[X.c];exact h
end
end
section
variable [Inhabited pB]
open Go
variable {P:Program}{t:TypeId}{bT:List CK}
def Fa:Value->CK->Bool
 | .int k n,.int k'=>decide (k=k')&&decide (n=0)
 | .bool b,.bool=> !b
 | .string s,.str=>s.data.size==0
 | .slice none 0 0,.slice _=>true
 | .pointer none,.ptr _=>true
 | .map none,.map _ _=>true
 | .nilFunc,.fn=>true
 |_,_=>false
def oa:List Value->List CK->Bool
 |[],[]=>true
 |v::vs,c::cs=>Fa v c&&oa vs cs
 |_,_=>false
def L7(P:Program)(t:TypeId)(ti:TI):TypeDesc->Bool
 | .struct fields=>ti.agg&&decide (fields.toList.map (λ(x:Go.Field)=>(x.offset,x.type))=ti.fs)&&(fields.toList.mapM (λ(f:Go.Field)=>(P.info? f.type).map λi=>(f.offset,i.size))).isSome
 | .array n e=>ti.agg&&decide (ti.ar=n+1)&&decide (ti.el=e)&&decide (ti.fs=[])
 | .slice e=> !ti.agg&&decide (ti.bT=[.slice e])&&decide (ti.el=e)&&decide (ti.fs=[])
 | .int k=> !ti.agg&&decide (ti.bT=[.int k])&&decide (ti.fs=[])
 | .bool=> !ti.agg&&decide (ti.bT=[.bool])&&decide (ti.fs=[])
 | .string=> !ti.agg&&decide (ti.bT=[.str])&&decide (ti.fs=[])
 | .pointer e=> !ti.agg&&decide (ti.bT=[.ptr e])&&decide (ti.fs=[])
 | .map k e=> !ti.agg&&decide (ti.bT=[.map t e])&&decide (ti.ar=k+1)&&decide (ti.el=e)&&decide (ti.fs=[])
 | .func _ _ _=> !ti.agg&&decide (ti.bT=[.fn])&&decide (ti.fs=[])
 |_=>false
def Bx(P:Program)(t:TypeId)(ti:TI):Bool:=
 match P.info? t,P.underlying t with
 |some i,some d=>(match i.zero with
  |some z=>decide (i.size=ti.bT.length)&&decide (i.bytes=ti.bytes)&&oa z.cells.toList ti.bT&&(match z with| .agg _=>ti.agg|_=> !ti.agg)&&L7 P t ti d&&(decide (ti.ar=0)|| !ti.agg||(match d with| .array _ _=>true|_=>false))
  |none=>false)
 |_,_=>false
def v8:List (TypeId×TI)->TypeId->Option TI
 |[],_=>none
 |(k,ti)::r,t=>bif nb k t then some ti else v8 r t
def Im{v:Value}{c:CK}(h:Fa v c=true):v=zeroV c:=by
 unfold Fa at h;split at h<;>simp at h<;>simp only[zeroV]
 ·rw[h.1,h.2]
 ·rw[h]
 ·rename_i s;obtain⟨d⟩:=s;first|(subst h;rfl)|(simp at h;rw[h])|(rw[h];rfl)
def vG:∀{vs:List Value}{cs:List CK},oa vs cs=true->vs=cs.map zeroV
 |[],[],_=>rfl
 |v::vs,c::cs,h=>by simp only[oa,bw]at h;simp only[bJ];rw[Im h.1,vG h.2]
 |[],_::_,h=>by simp[oa]at h
 |_::_,[],h=>by simp[oa]at h
def Fm{ti:TI}(h:Bx P t ti=true)(he:ti.yW=true->ti.agg=true/\ES P t ti.bT/\KeyLaw P t ti.bT):jl P t ti:=by
 unfold Bx at h;split at h
 ·rename_i i d j g;split at h
  ·rename_i z hz;simp only[bw,decide_eq_true_eq,fU,ib]at h;obtain⟨⟨⟨⟨⟨h1,h2⟩,h3⟩,h4⟩,h5⟩,h6⟩:=h;refine⟨⟨i,z,d,j,h1,h2,hz,vG h3,?_,g,?_⟩,he,?_⟩
   ·cases z<;>simp at h4<;>simp[h4,Value.cells]
   ·cases d<;>simp only[L7,bw,decide_eq_true_eq,ib,cv]at h5
    case struct fields=>obtain⟨⟨a,b⟩,c⟩:=h5;refine⟨a,?_,eQ.1 c⟩;intro f;rw[<- b];simp
    case array n e=>obtain⟨⟨⟨a,b⟩,c⟩,d⟩:=h5;exact⟨a,b,c,d⟩
    case slice e=>obtain⟨⟨⟨a,b⟩,c⟩,d⟩:=h5;exact⟨a,b,c,d⟩
    case int k=>obtain⟨⟨a,b⟩,c⟩:=h5;exact⟨a,b,c⟩
    case bool=>obtain⟨⟨a,b⟩,c⟩:=h5;exact⟨a,b,c⟩
    case string=>obtain⟨⟨a,b⟩,c⟩:=h5;exact⟨a,b,c⟩
    case pointer e=>obtain⟨⟨a,b⟩,c⟩:=h5;exact⟨a,b,c⟩
    case map k e=>obtain⟨⟨⟨⟨a,b⟩,c⟩,d⟩,f⟩:=h5;exact⟨a,b,c,d,f⟩
    case func=>obtain⟨⟨a,b⟩,c⟩:=h5;exact⟨a,b,c⟩
   ·intro ha l;rcases h6 with(h6|h6)|h6
    ·exact absurd h6 l
    ·rw[ha]at h6;cases h6
    ·cases d<;>simp at h6
     exact⟨_,_,g⟩
  ·simp at h
 ·simp at h
def tq(P:Program):List (TypeId×TI)->Bool
 |[]=>true
 |(t,ti)::r=>Bx P t ti&&tq P r
def O9{Iw:List (TypeId×TI)}(h:tq P Iw=true)(he:∀t ti,(t,ti)∈Iw->ti.yW=true->ti.agg=true/\ES P t ti.bT/\KeyLaw P t ti.bT):ec P (v8 Iw):=by
 induction Iw with
 |nil=>intro t ti h;simp[v8]at h
 |cons x r a=>
  obtain⟨k,i⟩:=x;simp only[tq,bw]at h;intro t ti hf;simp only[v8]at hf;cases hb:nb k t with
  |true=>rw[hb]at hf;simp at hf;subst hf;have:=cR hb;subst this;exact Fm h.1 (he k i yS)
  |false=>rw[hb]at hf;exact a h.2 (λt ti b=>he t ti (by simp[b])) t ti hf
def iF(P:Program):Nat->List Go.Field->List CK->Bool
 |_,[],[]=>true
 |k,f::fs,c::cs=>decide (f.offset=k)&&decide (f.name≠ "_")&&(match P.underlying f.type,c with
  |some (.int k),.int k'=>decide (k=k')
  |some .bool,.bool=>true
  |some .string,.str=>true
  |_,_=>false)&&iF P (k+1) fs cs
 |_,_,_=>false
def ug(P:Program)(t:TypeId)(bT:List CK):Bool:=
 match P.underlying t with
 |some (.struct fs)=>iF P 0 fs.toList bT&& !(P.stoodInHeld t)&& !(P.eqGuardType P.depth t)
 |_=>false
def qG{P:Program}(w:World)(d:Nat):∀(fs:List Go.Field)(cs:List CK)(k:Nat)(us vs:List Value),iF P k fs cs=true->us.length=k+cs.length->vs.length=k+cs.length->
 (∀(j:Nat) c u,cs[j]? =some c->us[k+j]? =some u->isScalar c u)->(∀(j:Nat) c u,cs[j]? =some c->vs[k+j]? =some u->isScalar c u)->
 (Op.eqFields (d+1) ⟨us⟩ ⟨vs⟩ fs).run P w= .ok (uQ (us.drop k) (vs.drop k)) w
 |[],[],k,us,vs,_,hu,p,_,_=>by rw[fo (by simp at hu;omega),fo (by simp at p;omega)];rfl
 |f::fs,c::cs,k,us,vs,h,hu,p,x,y=>by
  simp only[iF,bw,decide_eq_true_eq]at h;obtain⟨⟨⟨h1,h2⟩,h3⟩,h4⟩:=h;simp only[bM]at hu p;have o:k<us.length:=yO;have g:k<vs.length:=yO
  have z:=qG (P:=P) w d fs cs (k+1) us vs h4 (by omega) (by omega)
   (λj c u hc s=>x (j+1) c u (yU hc) (by rw[show k+(j+1)=k+1+j by omega];exact s))
   (λj c u hc s=>y (j+1) c u (yU hc) (by rw[show k+(j+1)=k+1+j by omega];exact s))
  have r:=x 0 c us[k] rfl (by simp[o]);have q:=y 0 c vs[k] rfl (by simp[g]);rw[bF o,bF g];have v:∀(l:List Value)(hl:k<l.length)(a:TypeDesc),P.underlying f.type=some a->(∀fs,a≠ .struct fs)->(∀n e,a≠ .array n e)->(part f.type ⟨l⟩ f.offset).run P w= .ok l[k] w:=by intro l hl a b i m;unfold part isAgg;simp only[Sem.run_bind,run_underlying b,Result.andThen_ok];cases a<;>first|exact absurd rfl (i _)|exact absurd rfl (m _ _)|simp[h1,hl]
  have fin:∀a,P.underlying f.type=some a->(∀fs,a≠ .struct fs)->(∀n e,a≠ .array n e)->(Op.equalIn (d+1) f.type us[k] vs[k]).run P w= .ok (SJ us[k] vs[k]) w->
   (Op.eqFields (d+1) ⟨us⟩ ⟨vs⟩ (f::fs)).run P w= .ok (uQ (us[k]::us.drop (k+1)) (vs[k]::vs.drop (k+1))) w:=by
   intro a b i m he;have e1:=v us o a b i m;have e2:=v vs g a b i m;simp only[Op.eqFields,if_pos h2,Sem.run_bind,e1,e2,Result.andThen_ok,he,uQ];cases SJ us[k] vs[k]with
   |true=>simpa using z
   |false=>simp
  split at h3
  ·rename_i A B b;obtain⟨i,e1⟩:=r;obtain⟨m,e2⟩:=q;refine fin _ b (λ_ h=>yC h) (λ_ _ h=>yC h) ?_;rw[e1,e2,run_equalIn_int w d f.type _ _ _ _ b];rfl
  ·rename_i b;obtain⟨i,e1⟩:=r;obtain⟨m,e2⟩:=q;refine fin _ b (λ_ h=>yC h) (λ_ _ h=>yC h) ?_;rw[e1,e2,run_equalIn_bool' w d f.type _ _ b];rfl
  ·rename_i b;obtain⟨i,e1⟩:=r;obtain⟨m,e2⟩:=q;refine fin _ b (λ_ h=>yC h) (λ_ _ h=>yC h) ?_;rw[e1,e2,run_equalIn_string w d f.type _ _ b,ByteArray.toList_eq,ByteArray.toList_eq];rfl
  ·simp at h3
 |[],_::_,_,_,_,h,_,_,_,_=>by simp[iF]at h
 |_::_,[],_,_,_,h,_,_,_,_=>by simp[iF]at h
def LY(h:ug P t bT=true):ES P t bT:=by
 unfold ug at h;split at h
 ·rename_i fs c;simp only[bw,ib]at h;obtain⟨⟨h1,h2⟩,h3⟩:=h;intro op x y us vs w b hu g e f;have hf:P.fieldsOf t=fs:=by simp[Program.fieldsOf,c]
  have a:(Op.equalIn 10000 t (.agg ⟨us⟩) (.agg ⟨vs⟩)).run P w= .ok (uQ us vs) w:=by have:=run_equalIn_struct (P:=P) w 9999 t ⟨us⟩ ⟨vs⟩ (by rw[hf];exact c) h2;rw[hf]at this;rw[this];have:=qG (P:=P) w 9998 fs.toList bT 0 us vs h1 yO yO (yU e) (yU f);simpa using this
  have d:=run_eqGuard_agg (P:=P) w op t x y ⟨us⟩ ⟨vs⟩ h3;rcases b with rfl|rfl
  ·simp only[Sem.run_bind,d,Result.andThen_ok,run_eql_struct,a,if_true]
  ·simp only[Sem.run_bind,d,Result.andThen_ok,run_neq_struct,a];rfl
 ·simp at h
def tW{P:Program}(w:World)(b:Bool):∀(fs:List Go.Field)(cs:List CK)(k:Nat)(us:List Value),iF P k fs cs=true->us.length=k+cs.length->
 (∀(j:Nat) c u,cs[j]? =some c->us[k+j]? =some u->isScalar c u)->
 (forIn (m:=Sem) fs kF (λf _=>if f.name≠ "_" then(do let x <-part f.type ⟨us⟩ f.offset;Instr.checkKey b 9999 f.type x;pure (pT kF))else pure (pT kF))).run P w= .ok kF w
 |[],_,_,_,_,_,_=>yS
 |f::fs,[],_,_,h,_,_=>by simp[iF]at h
 |f::fs,c::cs,k,us,h,hu,p=>by
  simp only[iF,bw,decide_eq_true_eq]at h;obtain⟨⟨⟨h1,h2⟩,h3⟩,h4⟩:=h;simp only[bM]at hu;have i:k<us.length:=yO;have r:=tW (P:=P) w b fs cs (k+1) us h4 (by omega) (λj c u hc s=>p (j+1) c u (by simpa using hc) (by rw[show k+(j+1)=k+1+j by omega];exact s));have l:=p 0 c us[k] rfl (by simp[i]);have q:∀(a:TypeDesc),P.underlying f.type=some a->(∀fs,a≠ .struct fs)->(∀n e,a≠ .array n e)->(part f.type ⟨us⟩ f.offset).run P w= .ok us[k] w:=by intro a d g o;unfold part isAgg;simp only[Sem.run_bind,run_underlying d,Result.andThen_ok];cases a<;>first|exact absurd rfl (g _)|exact absurd rfl (o _ _)|simp[h1,i]
  have fin:∀a,P.underlying f.type=some a->(∀fs,a≠ .struct fs)->(∀n e,a≠ .array n e)->(Instr.checkKey b 9999 f.type us[k]).run P w= .ok () w->
   (forIn (m:=Sem) (f::fs) kF (λf _=>if f.name≠ "_" then(do let x <-part f.type ⟨us⟩ f.offset;Instr.checkKey b 9999 f.type x;pure (pT kF))else pure (pT kF))).run P w= .ok kF w:=by
   intro a d g o he;have e1:=q a d g o;simp only[List.forIn_cons,if_pos h2,Sem.run_bind,e1,he,Result.andThen_ok,Sem.run_pure];exact r
  split at h3
  ·rename_i v y d;obtain⟨g,e1⟩:=l;refine fin _ d (λ_ h=>yC h) (λ_ _ h=>yC h) ?_;rw[e1,show (9999:Nat)=9998+1 from rfl,Instr.checkKey];simp only[Sem.run_bind,run_underlying d,Result.andThen_ok,Sem.run_pure]
  ·rename_i d;obtain⟨g,e1⟩:=l;refine fin _ d (λ_ h=>yC h) (λ_ _ h=>yC h) ?_;rw[e1,show (9999:Nat)=9998+1 from rfl,Instr.checkKey];simp only[Sem.run_bind,run_underlying d,Result.andThen_ok,Sem.run_pure]
  ·rename_i d;obtain⟨g,e1⟩:=l;refine fin _ d (λ_ h=>yC h) (λ_ _ h=>yC h) ?_;rw[e1,show (9999:Nat)=9998+1 from rfl,Instr.checkKey];simp only[Sem.run_bind,run_underlying d,Result.andThen_ok,Sem.run_pure]
  ·simp at h3
def Jc(h:ug P t bT=true):KeyLaw P t bT:=by
 unfold ug at h;split at h
 ·rename_i fs a;simp only[bw,ib]at h;obtain⟨⟨h1,h2⟩,h3⟩:=h;refine⟨⟨fs,a⟩,?_⟩;intro us vs w hu f c e;have hf:P.fieldsOf t=fs:=by simp[Program.fieldsOf,a]
  refine⟨?_,λb=>?_⟩
  ·have:=run_equalIn_struct (P:=P) w 9999 t ⟨us⟩ ⟨vs⟩ (by rw[hf];exact a) h2;rw[hf]at this;unfold Op.equal Op.maxDepth;rw[this];have:=qG (P:=P) w 9998 fs.toList bT 0 us vs h1 yO yO (yU c) (yU e);simpa using this
  ·have:=tW (P:=P) w b fs.toList bT 0 us h1 yO (yU c);rw[show (10000:Nat)=9999+1 from rfl,Instr.checkKey];simp only[Sem.run_bind,run_underlying a,Result.andThen_ok];rw[<- Array.forIn_toList];have d:∀{r:Result PUnit},r= .ok kF w->(r.andThen λ_ w'=>Sem.run P (pure ()) w')= .ok () w:=λh=>by rw[h];rfl
   exact d this
 ·simp at h
def po(P:Program):List (TypeId×TI)->Bool
 |[]=>true
 |(t,ti)::r=>(!ti.yW||(ti.agg&&ug P t ti.bT))&&po P r
def Ei:∀{Iw:List (TypeId×TI)},po P Iw=true->∀t ti,(t,ti)∈Iw->ti.yW=true->ti.agg=true/\ES P t ti.bT/\KeyLaw P t ti.bT
 |[],_,t,ti,h,_=>yE h
 |(k,i)::r,h,t,ti,hm,he=>by
  simp only[po,bw,fU,ib]at h;rcases bN.1 hm with e|e
  ·cases e;rcases h.1 with h1|h1
   ·rw[he]at h1;simp at h1
   ·exact⟨h1.1,LY h1.2,Jc h1.2⟩
  ·exact Ei h.2 t ti e he
end
section
variable [Inhabited pB]
open Go
def Cl(n0:Nat)(st b:St):Prop:=∃ps,(jz ps&&xd n0 0 ps)=true/\Sub n0 (uT ps st) b
section
variable {P:Program}{tt:TypeId->Option TI}{N n0:Nat}{B:jc}{E:List RI}{Pp:fE}{w:World}{st:St}{a:Act}{ps:List Nat}
variable {α:Type}{Q:Ex->St->Prop}{c:Code}{G:ea}{A:pM}{C:iZ}{L:Code->St->(Ex->St->Prop)->Prop}{st:St}{o:List Ob}{r:Option Nat}
def xV{ps:List Nat}{s:cU}(d:WR tt E Pp o w):∀b,own (ps.map λr=>E.getD r .row0) (uT ps ⟨s,o⟩).o b->own E o b:=by rintro b ⟨i,q,ri,h1,h2,h3,h4⟩;obtain⟨r,o',a1,a2,a3,a4⟩:=qq d h1 h2 h3;exact⟨r,o',ri,a2,a3,a4,h4⟩
def F1(I:α->St)(f:α->Prop)(k:α->Nat)(j:α)(h0:f j)(g:Cl n0 st (I j))
 (round:∀x,f x->qU P tt N n0 r c (I x) λe d=>match e with| .normal=>∃l,f l/\k l<k x/\Cl n0 d (I l)| .exit i=>Q (.exit i) d| .ret=>Q .ret d):qU P tt N n0 r (.loop c) st Q:=
 yl (Cl n0) (λ{B E Pp st n a w} hb h hk=>by obtain⟨ps,h1,h2⟩:=hk;exact⟨_,(h.pick hb h1).sub hb h2,λb m=>xV h.wr b (h2.own b m)⟩) I f k j h0 g round
def Ctx.j0(X:Ctx P G A C L)
 (I:α->St) (d:α->Prop) (h:α->Nat) (g:α) (h0:d g) (f:Cl G.n0 st (I g))
 (round:∀x,d x->mC A G C L c (I x) λe b=>match e with| .normal=>∃j,d j/\h j<h x/\Cl G.n0 b (I j)| .exit i=>Q (.exit i) b| .ret=>Q .ret b):L (.loop c) st Q:=by
 obtain⟨rfl,rfl,⟨r,_,rfl⟩,k,l⟩:=X;exact F1 I d h g h0 f λx m=>FJ k l c _ _ (round x m)
def Re(F:List Nat)(st:St):St:=match st with
 |⟨s,o⟩=>⟨mM F o s,fw F 0 o⟩
def MH(n0:Nat)(st b:St):Prop:=∃d F,Cl n0 (Re F (sinks d st)) b
def Jg{F:List Nat}{b:Nat}(h:own E (fw F 0 o) b):own E o b:=by
 obtain⟨i,q,ri,h1,h2,h3,h4⟩:=h;rw[jr]at h1;cases d:o[i]? with
 |none=>rw[d]at h1;simp at h1
 |some x=>
  rw[d]at h1;simp only[cr,cz]at h1;refine⟨i,x,ri,d,?_,h3,h4⟩;cases hm:eI (0+i) F<;>rw[hm]at h1<;>simp only[cond_true,cond_false]at h1
  ·rw[h1];exact h2
  ·subst h1;cases x<;>simp_all[vZ,Ob.live]
def fS.S7{d:St}(hb:B.E0.length=n0)(h:fS tt N B E Pp st a w)(hk:MH n0 st d):∃E' Pp',fS tt N B E' Pp' d a w/\∀b,own E' d.o b->own E st.o b:=by obtain⟨f,F,ps,h1,h2⟩:=hk;obtain⟨Pp1,g,q,p,k⟩:=tz f h.EX h.fk;generalize j:sinks f st=st1 at*;obtain⟨n,i⟩:=st1;have m:=g.mN F;have l:=tY g.wr (F:=F) p;have hs:=cL.JP (st:=⟨mM F i n,fw F 0 i⟩) m l h.size h.defers;exact⟨_,_,(hs.pick hb h1).sub hb h2,λb e=>k b (Jg (xV hs.wr b (h2.own b e)))⟩
def F2(I:α->St)(m:α->Prop)(p:α->Nat)(n:α)(h0:m n)(s:MH n0 st (I n))
 (round:∀x,m x->qU P tt N n0 r c (I x) λe f=>match e with| .normal=>∃l,m l/\p l<p x/\MH n0 f (I l)| .exit i=>Q (.exit i) f| .ret=>Q .ret f):qU P tt N n0 r (.loop c) st Q:=by
 intro B E Pp a w hb hs;obtain⟨S,Pp1,y,M⟩:=hs.S7 hb s;refine zW (λx u w'=>∃E Pp,m x/\fS tt N (B.at u.defers) E Pp (I x) u w'/\Mk w a.defers E (I x).o u.defers w'/\w.heap.size<=w'.heap.size) p n ⟨S,Pp1,h0,y.at,Mk.none rfl,cg _⟩ ?_;rintro x a1 D ⟨E,Pp,O,hs,R,hz⟩;refine wpIn_mono (round x O (B.here E Pp (I x).o a1.defers D) E Pp a1 D hb hs.here) ?_;rintro e a2 T ⟨F,j,E2,h,he,k,H,t,z⟩;have g:=fS.back (B:=B.at a1.defers) hs k;have b:=Mk.trans hz R k H;have d:=bQ hz t;cases e<;>cases F<;>simp only[pn]at he
 ·obtain⟨l,h1,h2,h3⟩:=z;obtain⟨J,v,q,K⟩:=fS.S7 (B:=B.at a2.defers) hb g h3;exact⟨l,⟨J,v,h1,q,b.sub K,d⟩,h2⟩
 ·subst he;exact⟨.exit _,j,E2,h,rfl,g,b,d,z⟩
 ·exact⟨.ret,j,E2,h,trivial,g,b,d,z⟩
def Ctx.Ld(X:Ctx P G A C L)
 (I:α->St) (d:α->Prop) (h:α->Nat) (g:α) (h0:d g) (f:MH G.n0 st (I g))
 (round:∀x,d x->mC A G C L c (I x) λe b=>match e with| .normal=>∃j,d j/\h j<h x/\MH G.n0 b (I j)| .exit i=>Q (.exit i) b| .ret=>Q .ret b):L (.loop c) st Q:=by
 obtain⟨rfl,rfl,⟨r,_,rfl⟩,k,l⟩:=X;exact F2 I d h g h0 f λx m=>FJ k l c _ _ (round x m)
def Ctx.cut(X:Ctx P G A C L)
 (I:α->St) (h:α->Prop) {id:Nat}{ops:Array Oper}{d:Bool}
 (h1:zE A G C id ops d st λf=>∃x,h x/\Cl G.n0 f (I x)) (h2:∀x,h x->Q .normal (I x)):L (.region id ops d) st Q:=by
 obtain⟨rfl,rfl,⟨r,_,rfl⟩,k,n⟩:=X;intro B E Pp a w hb hs;refine wpIn_mono (Hp k n id ops d st (λe f=>match e with| .normal=>∃x,h x/\Cl G.n0 f (I x)|_=>False) h1 B E Pp a w hb hs) ?_;rintro e m w' ⟨p,f,E',Pp',he,g,i,hz,l⟩;cases p<;>simp only at l
 obtain⟨x,h3,ps,h4,h5⟩:=l;exact⟨.normal,I x,_,Pp',he,(fS.pick (B:=B.at m.defers) hb g h4).sub (B:=B.at m.defers) hb h5,i.sub (λb j=>xV g.wr b (h5.own b j)),hz,h2 x h3⟩
end
end
section
variable [Inhabited pB]
open Go
def gP(T:List Nat):List Ob->Nat->List Nat
 |[],_=>[]
 | .row e _ _::l,i=>(match eI e T with|true=>gP T l (i+1)|false=>i::gP T l (i+1))
 |_::l,i=>gP T l (i+1)
abbrev xE:=gP []
def Nx(R:List Nat)(n j:Nat):Nat:=match rS R n j with|some k=>k|none=>j
def WD(T:List Nat)(f:Nat->Nat):Ob->Ob
 | .row e d w=>(match eI e T with|true=>.row e d w|false=>.dead)
 |o=>oq f o
def DH(T:List Nat)(R:List Nat)(n:Nat)(objs:List Ob):List Ob:=gi (cS (WD T (Nx R n)) objs) (cS (ew objs) R)
abbrev mvO:=DH []
def HP(T:List Nat)(objs:List Ob)(args:List PV):St:=⟨lR 0 (cS (ql (Nx (gP T objs 0) (ch objs)) 8) args),DH T (gP T objs 0) (ch objs) objs⟩
def oD(objs:List Ob)(args:List PV):St:=HP [] objs args
def D6:Nat->Nat->List Nat
 |0,_=>[]
 |n+1,k=>k::D6 n (k+1)
def Ti:Ob->List Nat
 | .box cs=>eV (ot 8) cs
 | .loop _ _ _ _ s _=>eV (λ(x:Nat×PV)=>ot 8 x.2) s
 |_=>[]
def AN(n0:Nat)(st:St)(v:PV):List Nat:=reach st.o 64 (gi (ot 8 v) (eV (λi=>Ti (ew st.o i)) (D6 n0 0))) (D6 n0 0)
def x6(n0:Nat)(v:PV)(o:List Ob)(ps:List Nat)(K:PV->List Ob->Prop):Prop:=bif jz ps&&xd n0 0 ps then K (jv ps 8 v) (cS (λr=>jG ps (ew o r)) ps)else False
def gD(G:ea)(n0:Nat)(b:List ResultVar)(st:St)(K:PV->List Ob->Prop):Prop:=match xG G st b with
 |some v=>x6 n0 v st.o (AN n0 st v) K
 |none=>False
section
variable {P:Program}{tt:TypeId->Option TI}{G:ea}{N:Nat}{B:jc}{E:List RI}{Pp:fE}{objs:List Ob}{w:World}{st:St}{a:Act}
variable {args ma:List PV}{fn:Func}{K:PV->List Ob->Prop}{G:ea}{c1 c2 m:Code}{ps:List Nat}{f:FuncId}{n:Nat}{objs os:List Ob}{s:cU}{A:pM}{C:iZ}{L:Code->St->(Ex->St->Prop)->Prop}{g:Operand}{Q:Ex->St->Prop}
def sI(T:List Nat):∀(l:List Ob)(k r:Nat),r∈gP T l k↔∃i e d wr,r=k+i/\l[i]? =some (.row e d wr)/\eI e T=false
 |[],k,r=>by simp[gP]
 |o::l,k,r=>by
  have c:=sI T l (k+1) r
  have key:(∃i e d wr,r=k+i/\(o::l)[i]? =some (.row e d wr)/\eI e T=false)↔((∃e d wr,r=k/\o= .row e d wr/\eI e T=false)\/∃i e d wr,r=k+1+i/\l[i]? =some (.row e d wr)/\eI e T=false):=by
   constructor
   ·rintro⟨i,e,d,wr,h1,h2,h3⟩;cases i with
    |zero=>exact .inl ⟨e,d,wr,h1,yU h2,h3⟩
    |succ i=>exact .inr ⟨i,e,d,wr,yO,yU h2,h3⟩
   ·rintro(⟨e,d,wr,h1,h2,h3⟩|⟨i,e,d,wr,h1,h2,h3⟩)
    ·exact⟨0,e,d,wr,h1,by simp[h2],h3⟩
    ·exact⟨i+1,e,d,wr,yO,yU h2,h3⟩
  rw[key,<-c];cases o with
  |row e d w=>
   simp only[gP];cases hm:eI e T with
   |true=>
    constructor
    ·intro h;exact .inr h
    ·rintro(⟨e',d',b,_,h2,h3⟩|h)
     ·cases h2;rw[hm]at h3;cases h3
     ·exact h
   |false=>
    simp only[bN];constructor
    ·rintro(rfl|h)
     ·exact .inl ⟨e,d,w,rfl,rfl,hm⟩
     ·exact .inr h
    ·rintro(⟨e',d',b,h1,h2,h3⟩|h)
     ·exact .inl h1
     ·exact .inr h
  |_=>simp[gP]
def FB(T:List Nat):∀(l:List Ob)(k r:Nat),r∈gP T l k->k<=r:=by intro l k r h;obtain⟨i,_,_,_,h1,_⟩:=(sI T l k r).1 h;omega
def tG(T:List Nat):∀(l:List Ob)(k:Nat),(gP T l k).Nodup
 |[],_=>n2
 |o::l,k=>by
  have b:=tG T l (k+1);cases o<;>simp only[gP]<;>first|exact b|skip
  split
  ·exact b
  rw[cw];exact⟨λh=>by have:=FB T l (k+1) k h;omega,b⟩
def WR.mv(T:List Nat)(hw:WR tt E Pp objs w):∃E1,oR E E1/\(∀(i:Nat) x,E[i]? =some x->E1[Nx (gP T objs 0) (ch objs) i]? =some x)/\WR tt E1 Pp (DH T (gP T objs 0) (ch objs) objs) w/\
 ∀b,own E1 (DH T (gP T objs 0) (ch objs) objs) b->own E objs b:=by
 generalize hR:gP T objs 0=R;have WM:R.Nodup:=hR▸tG T objs 0;have TB:∀r∈R,∃e d wr,objs[r]? =some (.row e d wr)/\eI e T=false:=by intro r hr;rw[<- hR]at hr;obtain⟨i,e,d,wr,h1,h2,h3⟩:=(sI T objs 0 r).1 hr;rw[h1,dW];exact⟨e,d,wr,h2,h3⟩
 have hl:=hw.len;rw[cI];have Wj:∀(i:Nat) x,E[i]? =some x->(E++R.map λr=>E.getD r .row0)[i]? =some x:=λi x h=>fZ h;have WN:∀(k r:Nat) x,R[k]? =some r->E[r]? =some x->(E++R.map λr=>E.getD r .row0)[objs.length+k]? =some x:=by intro k r x hk hx;rw[<- hl];exact kU (qt hk hx)
 have hf:∀(i:Nat) x,E[i]? =some x->(E++R.map λr=>E.getD r .row0)[Nx R objs.length i]? =some x:=by
  intro i x hx;unfold Nx;split
  ·rename_i k hk;obtain⟨j,rfl,hj⟩:=vc hk;exact WN j i x hj hx
  ·exact Wj i x hx
 have Mo:∀(i:Nat) o,(DH T R objs.length objs)[i]? =some o->o.live=true->(i<objs.length/\∃o',objs[i]? =some o'/\o'.live=true/\(∀e d wr,o'= .row e d wr->eI e T=true)/\o=oq (Nx R objs.length) o')\/
  ∃k r,i=objs.length+k/\R[k]? =some r/\objs[r]? =some o/\∃e d wr,o= .row e d wr/\eI e T=false:=by
  intro i o ho Rf;unfold DH at ho;rw[eX]at ho;rcases ju ho with⟨h1,h2⟩|⟨k,h1,h2⟩
  ·rw[gG,bL]at h1;rw[gG,cu]at h2;cases hx:objs[i]? with
   |none=>rw[hx]at h2;simp at h2
   |some o'=>
    rw[hx]at h2;simp only[cr,cz]at h2;refine .inl ⟨h1,o',rfl,?_⟩;cases o' with
    |row e d w=>
     simp only[WD]at h2;cases hm:eI e T with
     |true=>rw[hm]at h2;subst h2;exact⟨rfl,(λ_ _ _ h=>by cases h;exact hm),rfl⟩
     |false=>rw[hm]at h2;subst h2;cases Rf
    |_=>simp only[WD]at h2;subst h2;first|(simp[oq,Ob.live]at Rf;done)|exact⟨rfl,(λ_ _ _ h=>yC h),rfl⟩
  ·rw[gG,bL]at h1;rw[gG,cu]at h2;cases hx:R[k]? with
   |none=>rw[hx]at h2;simp at h2
   |some r=>
    rw[hx]at h2;simp only[cr,cz]at h2;obtain⟨e,d,wr,hr,hm⟩:=TB r (fi hx);have hg:ew objs r= .row e d wr:=by rw[rJ];simp[cc,hr]
    rw[hg]at h2;subst h2;exact .inr ⟨k,r,h1,hx,hr,e,d,wr,rfl,hm⟩
 have src:∀(i:Nat) o ri,(DH T R objs.length objs)[i]? =some o->o.live=true->(E++R.map λr=>E.getD r .row0)[i]? =some ri->∃j o',objs[j]? =some o'/\o'.live=true/\E[j]? =some ri/\
  ((i=j/\i<objs.length/\∀e d wr,o'= .row e d wr->eI e T=true)\/∃k e d wr,i=objs.length+k/\R[k]? =some j/\o'= .row e d wr/\eI e T=false):=by
  intro i o ri ho Rf SL;rcases Mo i o ho Rf with⟨h1,o',h2,h3,h4,_⟩|⟨k,r,rfl,h2,h3,e,d,wr,rfl,hm⟩
  ·obtain⟨ri',LG,_⟩:=hw.ob i o' h2 h3;have:=Wj i ri' LG;rw[SL]at this;cases this;exact⟨i,o',h2,h3,LG,.inl ⟨rfl,h1,h4⟩⟩
  ·obtain⟨ri',LG,_⟩:=hw.ob r _ h3 rfl;have:=WN k r ri' h2 LG;rw[SL]at this;cases this;exact⟨r,_,h3,rfl,LG,.inr ⟨k,e,d,wr,rfl,h2,rfl,hm⟩⟩
 refine⟨E++R.map λr=>E.getD r .row0,.of Wj,hf,⟨?_,hw.pi,?_,?_,hw.gl⟩,?_⟩
 ·simp[DH,eX,gG,hl]
 ·intro i o ho Rf;rcases Mo i o ho Rf with⟨h1,o',h2,h3,h4,rfl⟩|⟨k,r,rfl,h2,h3,e,d,wr,rfl,hm⟩
  ·obtain⟨ri,SL,WJ⟩:=hw.ob i o' h2 h3;exact⟨ri,Wj i ri SL,OR.oq hf Rf WJ⟩
  ·obtain⟨ri,SL,WJ⟩:=hw.ob r _ h3 rfl;exact⟨ri,WN k r ri h2 SL,WJ.goes rfl rfl⟩
 ·intro i j oi oj ri rj b hi hj hli hlj hEi hEj hbi hbj;obtain⟨i',oi',h1,h2,h3,h4⟩:=src i oi ri hi hli hEi;obtain⟨j',oj',k1,k2,k3,k4⟩:=src j oj rj hj hlj hEj;have:=hw.sep i' j' oi' oj' ri rj b h1 k1 h2 k2 h3 k3 hbi hbj;subst this;rw[h1]at k1;cases k1;rcases h4 with⟨rfl,_,h5⟩|⟨k,e,d,wr,rfl,h6,rfl,h7⟩<;>rcases k4 with⟨rfl,_,k5⟩|⟨k',e',d',wr',rfl,k6,e1,k7⟩
  ·rfl
  ·rw[h5 _ _ _ e1]at k7;cases k7
  ·rw[k5 _ _ _ rfl]at h7;cases h7
  ·rw[FU WM h6 k6]
 ·rintro b ⟨i,o,ri,h1,h2,h3,h4⟩;obtain⟨j,o',k1,k2,k3,_⟩:=src i o ri h1 h2 h3;exact⟨j,o',ri,k1,k2,k3,h4⟩
 where FU {l:List Nat} (h:l.Nodup) {i j x:Nat} (hi:l[i]? =some x) (hj:l[j]? =some x):i=j:=
 (PC (dx.1 hi).1 h).1 (hi.trans hj.symm)
def Km(T:List Nat)(u:fn.ntmps=G.n)(c:ir (ch args) G.n=true):∀E Pp w vals,WR G.tt E Pp objs w->eJ G.tt E Pp vals args->∃d,fS G.tt G.n { w0:=w,E0:=E,P0:=Pp,kI:=own E objs } d Pp (HP T objs args) ⟨(⟨vals⟩:Array Value)++fj (fn.ntmps-(⟨vals⟩:Array Value).size) undef,[]⟩ w:=by intro E Pp w vals j e;have l:=e.length;rw[cI]at c;have p:=dK c;obtain⟨d,h1,h2,h3,h4⟩:=j.mv T;exact⟨d,h3,D7 (tJ h2 e),yQ,rfl,h1,λ_ _ h=>h,Fr.refl _ _,λad v h=>.inl h,λi o ri b q t r k=>.inr (h4 b ⟨i,o,ri,q,t,r,k⟩)⟩
def Kn(c:fn.ntmps=G.n)(b:ir (ch args) G.n=true):∀E Pp w vals,WR G.tt E Pp objs w->eJ G.tt E Pp vals args->∃d,fS G.tt G.n { w0:=w,E0:=E,P0:=Pp,kI:=own E objs } d Pp (oD objs args) ⟨(⟨vals⟩:Array Value)++fj (fn.ntmps-(⟨vals⟩:Array Value).size) undef,[]⟩ w:=Km [] c b
def wI{v:Value}{pv:PV}{E':List RI}{Pp':fE}{w':World}{o':List Ob}{d:List Deferred}{s':cU}{i:Act}(c:WR tt E Pp objs w)
 (hs:fS tt N { w0:=w,E0:=E,P0:=Pp,kI:=own E objs,d0:=d } E' Pp' ⟨s',o'⟩ i w') (e:VR tt E' Pp' v pv) (h:x6 objs.length pv o' ps K):kE tt E Pp objs w K (.returned v) w':=by
 unfold x6 at h;cases hb:(jz ps&&xd objs.length 0 ps)with
 |false=>rw[hb]at h;exact h.elim
 |true=>rw[hb]at h;have b:=hs.pick (n0:=objs.length) c.len hb;simp only[bw]at hb;exact⟨v,_,Pp',_,_,rfl,b.pre,b.rv,b.wr,tL (λ_ _ _=>pb) 8 _ _ e,h,b.fr,b.jo,b.fresh⟩
def FC.Jl(i:ec P G.tt)(o:P.follows .mixedOrders=true){c:Code}(hf:Has P f fn c)(t:fn.ntmps=G.n)(b:ch objs=G.n0)(l:ir (ch args) G.n=true)
 (h:∀(A:pM)(C:iZ)(L:Code->St->(Ex->St->Prop)->Prop),Ctx P G A C L->
   mC A G C L c (oD objs args) λe st=>match e with| .exit _=>False|_=>gD G G.n0 fn.results.toList st K):FC P G.tt f objs args K:=by
 rw[cI]at b;refine Cp (λ_ _ _ h=>h) i o hf.name hf.f hf.b b _ (Kn t l) (h _ _ _ ⟨rfl,rfl,⟨_,λ_=>rfl,rfl⟩,i,o⟩) ?_;intro E Pp w E' Pp' k u w' d q hr j;unfold gD at hr;split at hr
 ·rename_i p r;obtain⟨v,h1,h2⟩:=tI i j r;rw[<- b]at hr;exact⟨v,h1,wI q (s':=k.s) (o':=k.o) j h2 hr⟩
 ·exact hr.elim
def setArgs:cU->List Nat->List PV->cU
 |s,t::ts,p::ps=>setArgs ((t,p)::s) ts ps
 |s,_,_=>s
def o8(s:cU)(ps:List Nat)(objs:List Ob)(args:List PV):St:=⟨setArgs (IL (Nx (xE objs 0) (ch objs)) s) ps (cS (ql (Nx (xE objs 0) (ch objs)) 8) args),mvO (xE objs 0) (ch objs) objs⟩
def iB(st:St)(j:LS)(b:LS)(K:St->Prop):Prop:=match ew st.o 0 with
 | .loop n ps c1 c2 s i=>(match i,j with
  | .ready,.ready=>K ⟨st.s,gU st.o 0 (.loop n ps c1 c2 s b)⟩
  | .busy,.busy=>K ⟨st.s,gU st.o 0 (.loop n ps c1 c2 s b)⟩
  |_,_=>False)
 |_=>False
def mB(n0:Nat)(e:Ex)(st:St)(K:PV->List Ob->Prop):Prop:=match e with
 | .normal=>iB st .busy .ready λst=>x6 n0 (.bl true) st.o (AN n0 st (.bl true)) K
 | .ret=>iB st .busy (.done .ret) λst=>x6 n0 (.bl false) st.o (AN n0 st (.bl false)) K
 | .exit id=>iB st .busy (.done (.exit id)) λst=>x6 n0 (.bl false) st.o (AN n0 st (.bl false)) K
def vv(n:Nat):List Nat->Bool
 |[]=>true
 |x::l=>gZ x n&&vv n l
def xy{E:List RI}{Pp:fE}:∀(ps:List Nat)(args:List PV)(vals:List Value)(tmps:Array Value)(s:cU),(∀t,VR tt E Pp (tmps.getD t undef) (look s t))->eJ tt E Pp vals args->ps.length=args.length->(∀t∈ps,t<tmps.size)->
 (∀t,VR tt E Pp (((ps.zip vals).foldl (λ(tmps:Array Value) (x:Nat×Value)=>tmps.setIfInBounds x.1 x.2) tmps).getD t undef) (look (setArgs s ps args) t))/\((ps.zip vals).foldl (λ(tmps:Array Value) (x:Nat×Value)=>tmps.setIfInBounds x.1 x.2) tmps).size=tmps.size
 |[],[],_,tmps,s,hs,c,_,_=>by cases c;exact⟨hs,rfl⟩
 |p::ps,q::args,_,tmps,s,hs,c,hl,c8=>by
  cases c with
  |cons v _ vals _ d b=>
   have i:=c8 p yS
   have:=xy ps args vals (tmps.setIfInBounds p v) ((p,q)::s) (by
    intro t;rw[iK];simp only[bO,jf];split
    ·rename_i e;subst e;simp[i];exact d
    ·rename_i e;simpa only[bO]using hs t) b (yU hl) (λt j=>by simpa using c8 t (by simp[j]))
   refine⟨this.1,this.2.trans yS⟩
 |[],_::_,_,_,_,_,_,h,_=>yE h
 |_::_,[],_,_,_,_,_,h,_=>yE h
def fS.iB{B:jc}{w:World}{j p:LS}{K:St->Prop}(h:fS tt N B E Pp st a w)(hc:VC.iB st j p K):∃(l:Nat) (r:Loop) (d:St),E[0]? =some (.loop l)/\w.heap[l]? =some (.loop r)/\K d/\d.s=st.s/\
 Qi j r.state/\∀(z:LoopState)(p2:Option Code),Vn p z p2->fS tt N B E Pp d a (w.putObj l (.loop { r with state:=z,pending:=p2 })):=by
 unfold VC.iB at hc;split at hc
 ·rename_i n ps c1 c2 s i H;have c:=cT H rfl;obtain⟨ri,o,u⟩:=h.wr.ob 0 _ c rfl;cases ri<;>try exact u.elim
  rename_i l;obtain⟨r,h1,h2,h3⟩:=u
  have x:Qi j r.state/\K ⟨st.s,gU st.o 0 (.loop n ps c1 c2 s p)⟩:=by
   split at hc
   ·exact⟨h2.state.1,hc⟩
   ·exact⟨h2.state,hc⟩
   ·exact hc.elim
  refine⟨l,r,⟨st.s,gU st.o 0 (.loop n ps c1 c2 s p)⟩,o,h1,x.2,rfl,x.1,?_⟩
  ·intro z p2 y;generalize t:({ r with state:=z,pending:=p2 }:Loop)=r2
   have c8:l<w.heap.size:=by
    rcases bV l w.heap.size with D|D
    ·exact D
    ·simp[cC D]at h1
   have I:=cx c;have same:∀k,k≠l->(w.putObj l (.loop r2)).heap[k]? =w.heap[k]? :=λk hk=>World.putObj_heap_other hk;refine cL.JP (st:=⟨st.s,gU st.o 0 (.loop n ps c1 c2 s p)⟩) ?_ h.fk h.size h.defers;simp only[fV];refine h.EX.wm c rfl o rfl (λ_ _=>rfl) o (.inl (.refl _)) yS ?_ (by rw[bZ I]) (λ_=>?_) rfl rfl rfl (by simp[World.putObj]) ?_ (λ_ _ h=>h) (λ_ _ h=>.inl h) (λ_ hb=>.inl hb) ?_
   ·intro j oj M q J;rw[bU (dy M)]at q;exact⟨oj,q,J,λ_ _ h=>h⟩
   ·refine⟨r2,World.putObj_heap_same c8,?_,?_⟩
    ·rw[<- t];exact⟨h2.size,h2.params,h2.assign,h2.body,y⟩
    ·rw[<- t];exact h3
   ·intro b _ F;exact same b (λe=>F (by rw[e];rfl))
   ·intro ad v O;have hc:=h.wr.pi ad v O;rw[gF (same ad.block ?_)]
    ·exact hc
    ·intro e;simp[pc,e,h1]at hc
 ·exact hc.elim
def YC.L2(S:ec P G.tt)(hm:P.follows .mixedOrders=true)(hN:nb n G.n=true)(D:nb (ch os+1) G.n0=true)(p:nb (ch args) (ch ps)=true)(c8:vv n ps=true)
 (h:∀l:Nat,∃LP:Code->St->(Ex->St->Prop)->Prop,(∀c st Q,LP c st Q->qU P G.tt G.n G.n0 (some l) c st Q)/\
   mC Std G (jT P G.tt) LP c1 (o8 s ps (.loop n ps c1 c2 s .ready::os) args) λe st=>match e with
    | .normal=>iB st .ready .busy λst=>mC Std G (jT P G.tt) LP c2 st λe st=>mB G.n0 e st K
    |_=>False):YC P G.tt (.loop n ps c1 c2 s .ready::os) args K:=by
 intro E Pp w vals l rec M hE T hv;obtain⟨ri,V,ae⟩:=M.ob 0 _ rfl rfl;rw[hE]at V;cases V;obtain⟨ao,h1,h2,h3⟩:=ae;rw[T]at h1;cases h1;have hN:=cR hN;have D:=cR D;have p:=cR p;rw[cI]at D;rw[cI,cI]at p;have aw:ps.length=rec.params.size:=by rw[<- h2.params];simp
 have aA:=hv.length;refine⟨yO,?_⟩;obtain⟨E1,q1,q2,q3,q4⟩:=M.mv []
 have U:∀(l:List Nat),vv n l=true->∀t∈l,t<n:=by
  intro l;induction l with
  |nil=>intro _ t u;simp at u
  |cons x l ih=>
   intro h t u;simp only[vv,bw]at h;rcases bN.1 u with rfl|u
   ·exact dK h.1
   ·exact ih h.2 t u
 have J:=xy (tt:=G.tt) (E:=E1) (Pp:=Pp) ps (cS (ql (Nx (xE (.loop n ps c1 c2 s .ready::os) 0) (ch (.loop n ps c1 c2 s .ready::os))) 8) args) vals rec.tmps (IL (Nx (xE (.loop n ps c1 c2 s .ready::os) 0) (ch (.loop n ps c1 c2 s .ready::os))) s)
  (λt=>by rw[Ap];exact wE q2 8 _ _ (h3 t)) (tJ q2 hv) (by rw[fI];omega) (λt u=>by rw[h2.size];exact U ps c8 t u)
 have z:(rec.params.zip (⟨vals⟩:Array Value)).foldl (λtmps (t,a)=>tmps.setIfInBounds t a) rec.tmps=(ps.zip vals).foldl (λ(tmps:Array Value) (x:Nat×Value)=>tmps.setIfInBounds x.1 x.2) rec.tmps:=by rw[<- vF,Array.toList_zip,h2.params]
 rw[z];obtain⟨rfl,rfl⟩:rec.assign=c1/\rec.body=c2:=⟨h2.assign,h2.body⟩;refine roundIn_of_wpIn trivial ?_;have ab:fS G.tt G.n { w0:=w,E0:=E,P0:=Pp,kI:=own E (.loop n ps rec.assign rec.body s .ready::os) } E1 Pp (o8 s ps (.loop n ps rec.assign rec.body s .ready::os) args) ⟨(ps.zip vals).foldl (λ(tmps:Array Value) (x:Nat×Value)=>tmps.setIfInBounds x.1 x.2) rec.tmps,[]⟩ w:=⟨q3,J.1,by rw[J.2,h2.size,hN],rfl,q1,λ_ _ h=>h,Fr.refl _ _,λad v h=>.inl h,λi o ri b Y r2 r3 r4=>.inr (q4 b ⟨i,o,ri,Y,r2,r3,r4⟩)⟩;have y:E.length=G.n0:=by rw[M.len];simp;omega
 obtain⟨LP,hL,h⟩:=h l;have H:∀{B:jc}{E':List RI}{Pp':fE}{R:St}{a':Act}{w':World},B.E0=E->fS G.tt G.n B E' Pp' R a' w'->E'[0]? =some (.loop l):=by intro B E' Pp' R a' w' hB hs;have:=hs.pre;rw[hB]at this;exact this.loop hE
 refine wpIn_mono (o9 (r:=some l) S hm hL _ _ _ h _ E1 Pp _ w y ab) ?_;rintro e a1 w1 ⟨X,ay,E2,Z,he,O,_,_,W⟩;cases e<;>cases X<;>simp only[pn]at he<;>try exact W.elim
 obtain⟨l1,Y,ak,b1,b2,b3,_,b5,b6⟩:=O.iB W;have:=H rfl O;rw[b1]at this;cases this;refine⟨_,run_beginRound b2 b5,?_⟩;have af:=b6 .busy Y.pending rfl;refine wpIn_mono (o9 (r:=some l) S hm hL _ _ _ b3 _ E2 Z _ _ y af.at) ?_;rintro e a2 w2 ⟨X,aa,E3,aC,he,I,_,_,F⟩
 have k:∀(j:LS)(d:Option Code)(b:Bool),(match j with| .ready=>d=none| .done c=>d=some c| .busy=>False)->(b=d.isNone)->iB aa .busy j (λst=>x6 G.n0 (.bl b) st.o (AN G.n0 st (.bl b)) K)->
  ∃v w',(Instr.endRound l d).run P w2= .ok v w'/\kE G.tt E Pp (.loop n ps rec.assign rec.body s .ready::os) w K (.returned v) w':=by
  intro j d b hj hb W;subst hb;obtain⟨l2,r2,q,d1,d2,d3,_,d5,d6⟩:=I.iB W;have:=H rfl I;rw[d1]at this;cases this;refine⟨_,_,run_endRound d d2,?_⟩
  have ac:=d6 (if d.isNone then .ready else .done) d (by
   cases j<;>simp only at hj
   ·subst hj;exact⟨rfl,rfl⟩
   ·subst hj;exact⟨rfl,rfl⟩)
  rw[<- y,M.len]at d3;exact wI M (s':=q.s) (o':=q.o) ac (.bl _) d3
 cases e<;>cases X<;>simp only[pn]at he
 ·exact k .ready none true rfl rfl F
 ·subst he;exact k (.done (.exit _)) (some (.exit _)) false rfl rfl F
 ·exact k (.done .ret) (some .ret) false rfl rfl F
def YC.enter(d:ec P G.tt)(j:P.follows .mixedOrders=true)(c:G.Cz=true)(k:nb n G.n=true)(i:nb (ch os+1) G.n0=true)(b:nb (ch args) (ch ps)=true)(c8:vv n ps=true)
 (h:∀(A:pM)(C:iZ)(L:Code->St->(Ex->St->Prop)->Prop),Ctx P G A C L->
   mC A G C L c1 (o8 s ps (.loop n ps c1 c2 s .ready::os) args) λe st=>match e with
    | .normal=>iB st .ready .busy λst=>mC A G C L c2 st λe st=>mB G.n0 e st K
    |_=>False):YC P G.tt (.loop n ps c1 c2 s .ready::os) args K:=
 YC.L2 d j k i b c8 λl=>⟨_,λ_ _ _ h=>h,h _ _ _ ⟨rfl,rfl,⟨some l,(λh=>by rw[c]at h;cases h),rfl⟩,d,j⟩⟩
def Ctx.round(X:Ctx P G A C L)(h:YC P G.tt objs args K):C .j9 objs args K:=by rw[X.c];exact h
def qn(n:Nat)(st:St)(Q:Ex->St->Prop):Prop:=match ew st.o n with
 | .loop _ _ _ _ _ j=>(match j with
  | .ready=>Q .normal ⟨st.s,gU st.o n .dead⟩
  | .done .ret=>Q .ret ⟨st.s,gU st.o n .dead⟩
  | .done (.exit id)=>Q (.exit id) ⟨st.s,gU st.o n .dead⟩
  |_=>False)
 |_=>False
def xH(G:ea)(C:iZ)(f:FuncId)(ma:List PV)(ps:Array Tmp)(c1 c2:Code)(c:cU)(st:St)(Q:Ex->St->Prop):Prop:=vb C (.fn f) (.j9 (ch st.o)::ma) st.s (gi st.o [.loop G.n ps.toList c1 c2 c .ready]) λ_ b=>qn (ch st.o) b Q
def cL.L5{l:Nat}{ob:Ob}{r2:Loop}(h:cL tt B E Pp objs w)(q:objs[n]? =some ob)(o:E[n]? =some (.loop l))(hl:ob.live=true):cL tt B E Pp (objs.set n .dead) (w.putObj l (.loop r2)):=by
 obtain⟨ri,i,d⟩:=h.wr.ob n _ q hl;rw[o]at i;cases i;have u:∃k ps c1 c2 s j,ob= .loop k ps c1 c2 s j:=by cases ob<;>first|exact⟨_,_,_,_,_,_,rfl⟩|exact d.elim
 obtain⟨k,ps,c1,c2,s,j,rfl⟩:=u;obtain⟨r,h1,_⟩:=d;have p:=cx q;have same:∀k,k≠l->(w.putObj l (.loop r2)).heap[k]? =w.heap[k]? :=λk hk=>World.putObj_heap_other hk;refine h.wm (o':=.dead) q rfl o rfl (λ_ _=>rfl) o (.inl (.refl _)) yS ?_ (by rw[bZ p]) (λh=>yC h) rfl rfl rfl (by simp[World.putObj]) ?_ (λ_ _ h=>h) (λ_ _ h=>.inl h) (λ_ hb=>.inl hb) ?_
 ·intro j oj y c x;rw[bU (dy y)]at c;exact⟨oj,c,x,λ_ _ h=>h⟩
 ·intro b _ t;exact same b (λe=>t (by rw[e];rfl))
 ·intro ad v z;have hc:=h.wr.pi ad v z;rw[gF (same ad.block ?_)]
  ·exact hc
  ·intro e;simp[pc,e,h1]at hc
def cL.compose{j:World}{E2:List RI}{d:fE}{o2:List Ob}(h:cL tt B E Pp objs w)(k:cL tt { w0:=w,E0:=B.E0,P0:=Pp,kI:=own E objs } E2 d o2 j):cL tt B E2 d o2 j:=by
 have c:∀b,own E objs b->B.w0.heap.size<=b\/B.kI b:=λb ⟨i,o,ri,h1,h2,h3,h4⟩=>h.fresh i o ri b h1 h2 h3 h4;refine⟨k.wr,k.pre,λad v e=>k.rv ad v (h.rv ad v e),?_,?_,?_⟩
 ·refine h.fr.trans k.fr (λx l p=>?_);have l:x<B.w0.heap.size:=l;rcases c x p with h1|h1
  ·omega
  ·exact h1
 ·intro ad v e;rcases k.jo ad v e with h1|h1|h1
  ·exact h.jo ad v h1
  ·exact .inr (.inl (bQ h.fr.size h1))
  ·exact .inr (c _ h1)
 ·intro i o ri b h1 h2 h3 h4;rcases k.fresh i o ri b h1 h2 h3 h4 with h5|h5
  ·exact .inl (bQ h.fr.size h5)
  ·exact c _ h5
def xI{ps:Array Tmp}(hg:ev st.s g= .cy f ma)(hf:Has P f fn m)(ax:gZ f kz=true){T:cU}(aD:Fp st.s T)
 (hk:xH G (jT P G.tt) f ma ps c1 c2 T st Q):qU P G.tt G.n G.n0 none (.rangeFunc g ps c1 c2) st Q:=by
 intro B E Pp a w hb hs;have ag:=eG hs.fk g;rw[hg]at ag;generalize av:a.eval g=vg at ag;cases ag with
 |cy _ _ vs _ hu ad=>
 obtain rfl:=hu.get ax;have ao:=hs.wr.len;refine wpIn_rangeFunc (F:=kS none) λan _=>?_;generalize J:({ state:=.ready,pending:=none,fn:=an,tmps:=a.tmps,params:=ps,assign:=c1,body:=c2,defers:=w.heap.size }:Loop)=rec;generalize y:(w.alloc (.deferred (some []))).alloc (.loop rec)=q;have aJ:q.heap.size=w.heap.size+2:=by rw[<- y];simp
 have aC:q.heap[w.heap.size]? =some (.deferred (some [])):=by rw[<- y,RowKit.Below.heap_alloc _ _ _ yS];exact eh w _
 have ay:q.heap[w.heap.size+1]? =some (.loop rec):=by have:=eh (w.alloc (.deferred (some []))) (.loop rec);rw[y]at this;simpa using this
 have z:∀(i:Nat) x,E[i]? =some x->(E++[RI.loop (w.heap.size+1)])[i]? =some x:=mem_push
 have h1:cL G.tt B (E++[.loop (w.heap.size+1)]) Pp (st.o++[.loop G.n ps.toList c1 c2 T .ready]) q:=by
  have ha:=hs.EX.alloc (.deferred (some []));have:=ha.new (x:=.loop rec) (ri:=.loop (w.heap.size+1)) (o:=.loop G.n ps.toList c1 c2 T .ready) (by simp[RI.cZ]) ?_
  ·rw[y]at this;exact this
  ·refine⟨rec,?_,?_,?_⟩
   ·rw[y];exact ay
   ·subst J;exact⟨hs.size,rfl,rfl,rfl,rfl,rfl⟩
   ·intro t;have:rec.tmps=a.tmps:=by subst J;rfl
    rw[this];exact wF (rb aD t) ((hs.fk t).mono z (λ_ _ h=>h))
 have D:∀t,VR G.tt (E++[.loop (w.heap.size+1)]) Pp (a.tmps.getD t undef) (look st.s t):=λt=>(hs.fk t).mono z (λ_ _ h=>h);have aa:(E++[RI.loop (w.heap.size+1)])[st.o.length]? =some (.loop (w.heap.size+1)):=by rw[<- ao];simp
 have hv:eJ G.tt (E++[.loop (w.heap.size+1)]) Pp (.func (.yield (w.heap.size+1)) #[] #[]::vs) (.j9 (ch st.o)::ma):=.cons _ _ _ _ (.j9 _ _ (by rw[cI];exact aa)) (ad.mono z (λ_ _ h=>h));unfold xH vb at hk;rw[eX]at hk;generalize hF:reach (st.o++[.loop G.n ps.toList c1 c2 T .ready]) 64 (eV (ot 8) (.j9 (ch st.o)::ma)) []=F at hk;unfold qz at hk;cases I:(jz F&&gE (λr=>gZ r (ch (st.o++[.loop G.n ps.toList c1 c2 T .ready]))) F)with
 |false=>rw[I]at hk;exact hk.elim
 |true=>
 rw[I]at hk;simp only[bw,cI]at I;have ab:cL G.tt { w0:=q,E0:=B.E0,P0:=Pp,kI:=own (E++[.loop (w.heap.size+1)]) (st.o++[.loop G.n ps.toList c1 c2 T .ready]) } (E++[.loop (w.heap.size+1)]) Pp (st.o++[.loop G.n ps.toList c1 c2 T .ready]) q:=⟨h1.wr,h1.pre,λ_ _ h=>h,Fr.refl _ _,λ_ _ h=>.inl h,λi o ri b q1 q2 q3 X=>.inr ⟨i,o,ri,q1,q2,q3,X⟩⟩;have hl:=BW (st:=st) (a:=a) (K:=λ_ l=>qn (ch st.o) l Q) ab D hv (oy I.1) (MC I.2);have af:=hk _ _ q (.func (.yield (w.heap.size+1)) #[] #[]::vs) hl.1 hl.2.1;rcases af with⟨_,V⟩|⟨v,w',Y,_⟩
 case inr=>rw[mn hf.f hf.b hf.name]at Y;cases Y
 refine⟨w.heap.size+1,[tc w.heap.size],q,{ target:=.fn (.func f) ⟨vs⟩,args:= #[.func (.yield (w.heap.size+1)) #[] #[]] },q,f,⟨.func (.yield (w.heap.size+1)) #[] #[]::vs⟩,q,?_,?_,λ_ _=>trivial,?_,λh=>by simp[kS,Fence.wide]at h,?_⟩
 ·have:=run_enterLoop_outer (P:=P) (w:=w) an a.tmps ps c1 c2;rw[J,y]at this;exact this
 ·have he:(#[Operand.const (.func (.yield (w.heap.size+1)) #[] #[])]:Array Operand).map a.eval= #[.func (.yield (w.heap.size+1)) #[] #[]]:=by simp[Act.eval]
  simp[resolve,rangeCall,av,Deferred.ofValue,he]
 ·have:=mn (w:=q) (vals:=.func (.yield (w.heap.size+1)) #[] #[]::vs) hf.f hf.b hf.name;simpa[invoke]using this
 ·refine(we V).mono ?_;intro e S hq;obtain⟨v,pv,s',o',E',Pp',rfl,_,q3,X,U,q6,q7,q8⟩:=hl.2.2 e S hq;have ae:cL G.tt B E' Pp' o' S:=h1.compose X;have W:E'[st.o.length]? =some (.loop (w.heap.size+1)):=q7.loop aa
  have aq:S.heap[w.heap.size]? =some (.deferred (some []))/\¬own E' o' w.heap.size:=by
   have aj:¬own (E++[.loop (w.heap.size+1)]) (st.o++[.loop G.n ps.toList c1 c2 T .ready]) w.heap.size:=by
    rintro⟨i,o,ri,R,r2,p,r4⟩;rcases ju R with⟨t1,t2⟩|⟨j,rfl,t2⟩
    ·rw[bS yO]at p;have:=mF hs.wr ⟨i,o,ri,t2,r2,p,r4⟩;omega
    ·cases j with
     |zero=>simp only[iq]at p;rw[aa]at p;cases p;simp only[RI.cZ,cz]at r4;omega
     |succ j=>simp at t2
   refine⟨(X.fr.block _ (by show w.heap.size<q.heap.size;omega) aj).trans aC,?_⟩;rintro⟨i,o,ri,R,r2,p,r4⟩;rcases X.fresh i o ri _ R r2 p r4 with r5|r5
   ·have r5:q.heap.size<=w.heap.size:=r5;omega
   ·exact aj r5
  unfold qn at U;rw[cI]at U;split at U
  ·rename_i n' aS aM aR s' j aA;have M:=cT aA rfl;obtain⟨ri,ar,aE⟩:=X.wr.ob _ _ M rfl;rw[W]at ar;cases ar;obtain⟨p,t1,t2,_⟩:=aE;subst q8
   have u:∀(H:Option Code),p.state≠ .busy->p.pending=H->∀(e4:Exit)(O:Ex),pn e4 O->Q O ⟨st.s,gU o' st.o.length .dead⟩->
    (∀(Q':Exit->Act->World->Prop)(a4:Act)(w4:World),Q' e4 a4 w4->match H with|none=>Q' .normal a4 w4|some c=>c.wpIn (kS none) 0 P Q' a4 w4)->
    rangePost (kS none) 0 P (w.heap.size+1) (λe a' w'=>∃O l E' Pp',pn e O/\fS G.tt G.n (B.at a'.defers) E' Pp' l a' w'/\Mk w a.defers E' l.o a'.defers w'/\w.heap.size<=w'.heap.size/\Q O l) { a with defers:=[tc w.heap.size]++a.defers } (.returned v) S:=by
    intro H aw Z e4 O az hQ aF;subst Z;have al:=run_endLoop (P:=P) t1 aw;have k:=ae.L5 (r2:={ p with state:=.exhausted }) M W rfl;rw[<- fV]at k;have ap:fS G.tt G.n (B.at ([tc w.heap.size]++a.defers)) E' Pp' ⟨st.s,gU o' st.o.length .dead⟩ { a with defers:=[tc w.heap.size]++a.defers } (S.putObj (w.heap.size+1) (.loop { p with state:=.exhausted })):=⟨k.wr,q3,hs.size,rfl,k.pre,k.rv,k.fr,k.jo,k.fresh⟩
    have aG:Mk w a.defers E' (gU o' st.o.length .dead) ([tc w.heap.size]++a.defers) (S.putObj (w.heap.size+1) (.loop { p with state:=.exhausted })):=by
     refine⟨[w.heap.size],rfl,yS,λb am=>?_⟩;rw[df]at am;subst am;have hz:q.heap.size<=S.heap.size:=X.fr.size;refine⟨cg _,by simp[World.putObj];omega,?_,?_⟩
     ·rw[World.putObj_heap_other yO];exact aq.1
     ·rintro⟨i,o,ri,R,r2,p,r4⟩;rw[fV]at R;by_cases hi:i=st.o.length
      ·subst hi;rw[bZ (cx M)]at R;cases R;simp[Ob.live]at r2
      ·rw[bU (dy hi)]at R;exact aq.2 ⟨i,o,ri,R,r2,p,r4⟩
    have hz:w.heap.size<=(S.putObj (w.heap.size+1) (.loop { p with state:=.exhausted })).heap.size:=by have hz:q.heap.size<=S.heap.size:=X.fr.size;simp[World.putObj];omega
    exact⟨p.pending,_,al,aF (λe a' w'=>∃O l E' Pp',pn e O/\fS G.tt G.n (B.at a'.defers) E' Pp' l a' w'/\Mk w a.defers E' l.o a'.defers w'/\w.heap.size<=w'.heap.size/\Q O l) _ _ ⟨O,_,E',Pp',az,ap,aG,hz,hQ⟩⟩
   have d:=t2.state;split at U
   ·exact u none (by rw[d.1];decide) d.2 .normal .normal trivial U (λQ' a4 w4 h=>h)
   ·exact u (some .ret) (by rw[d.1];decide) d.2 .ret .ret trivial U (λQ' a4 w4 h=>wpIn_ret h)
   ·exact u (some (.exit _)) (by rw[d.1];decide) d.2 (.exit _) (.exit _) rfl U (λQ' a4 w4 h=>wpIn_exit h)
   ·exact U.elim
  ·exact U.elim
def Ctx.range(X:Ctx P G A C L)(hr:G.Cz=false){ps:Array Tmp}{st:St}(hf:Has P f fn m)(e:ev st.s g= .cy f ma)(d:cU)(c:Fp st.s d)
 (hk:xH G C f ma ps c1 c2 d st Q) (b:gZ f kz=true:=by rfl):L (.rangeFunc g ps c1 c2) st Q:=by
 obtain⟨rfl,rfl,⟨r,h0,rfl⟩,h,i⟩:=X;obtain rfl:=h0 hr;exact xI e hf b c hk
end
end
section
variable [Inhabited pB]
open Go Go.ChangeShapes
def Cr(w:World):fE:=λad v=>w.cell? ad=some v
inductive Bd (n:Nat):D->Prop
 |int (k) (h: -9223372036854775808<=k/\k<=9223372036854775807):Bd n (.int k)
 |bool (b):Bd n (.bool b)
 |str (s:List UInt8) (h:s.length<=n):Bd n (.str s)
 |nil:Bd n .nil
 |list (rows:List (List D)) (h:rows.length<=n) (hr:∀row∈rows,∀d∈row,Bd n d):Bd n (.list rows)
 |ptr (cs:List D) (hr:∀d∈cs,Bd n d):Bd n (.ptr cs)
def K3(tt:TypeId->Option TI)(t:TypeId):Bool:=match tt t with
 |some ti=>ti.bT.all λck=>match ck with| .int .u64=>false|_=>true
 |none=>true
theorem wf_i64{k:IntKind}{m:Int}(h:(Lit.int k m).wf=true)(hk:k≠ .u64): -9223372036854775808<=m/\m<=9223372036854775807:=by simp only[Lit.wf,bw,decide_eq_true_eq]at h;cases k<;>simp[IntKind.min,IntKind.max,IntKind.signed,IntKind.bits]at h hk<;>omega
mutual
def wD:D->Nat
 | .int _=>1
 | .bool _=>1
 | .str _=>1
 | .nil=>1
 | .ptr cs=>1+jV cs
 | .list rows=>1+Nv rows
def jV:List D->Nat
 |[]=>0
 |d::l=>wD d+jV l
def Nv:List (List D)->Nat
 |[]=>0
 |r::l=>jV r+Nv l
end
theorem G4:∀(a b:List D),jV (a++b)=jV a+jV b
 |[],b=>by simp[jV]
 |d::a,b=>by simp only[dP,jV,G4 a b];omega
theorem Br:∀(l:List (List D)),Nv l=(l.map jV).sum
 |[]=>by simp[Nv]
 |r::l=>by simp only[Nv,bJ,cm,Br l]
theorem G5{r:List D}:∀{l:List (List D)},r∈l->jV r<=Nv l
 |x::l,h=>by
  simp only[Nv];rcases bN.1 h with rfl|h
  ·omega
  ·have:=G5 h;omega
structure Nl {H:Type} (bulk:DataW H->Nat):Prop where
 str:∀s,s.length<=bulk (.lit (.string s))
 slice:∀es sp,es.length<=bulk (.slice es sp)/\∀e∈es,bulk e<=bulk (.slice es sp)
 agg:∀ps,∀e∈ps,bulk e<=bulk (.agg ps)
 ptr:∀d,bulk d<=bulk (.ptr d)
 one:∀d,1<=bulk d
 S5:∀es sp,1+(es.map bulk).sum<=bulk (.slice es sp)
 S6:∀ps,(ps.map bulk).sum<=bulk (.agg ps)
inductive ga (tt:TypeId->Option TI) (Pp:fE) (n:Nat):List CK->List Value->List D->Prop
 |nil:ga tt Pp n [] [] []
 |cons (ck v d bT vs ds) (h:RD tt Pp ck v d) (hb:Bd n d) (t:ga tt Pp n bT vs ds):ga tt Pp n (ck::bT) (v::vs) (d::ds)
section
variable {tt:TypeId->Option TI}{Pp:fE}{n:Nat}
theorem ga.append{bT a:List CK}{vs c:List Value}{ds b:List D}(h:ga tt Pp n bT vs ds)(k:ga tt Pp n a c b):ga tt Pp n (bT++a) (vs++c) (ds++b):=by
 induction h with
 |nil=>exact k
 |cons ck v d bT vs ds h hb _ e=>exact .cons _ _ _ _ _ _ h hb e
theorem ga.len{bT:List CK}{vs:List Value}{ds:List D}(h:ga tt Pp n bT vs ds):vs.length=bT.length/\ds.length=bT.length:=by
 induction h with
 |nil=>exact⟨rfl,rfl⟩
 |cons _ _ _ _ _ _ _ _ _ a=>simp[a.1,a.2]
theorem ga.get{bT:List CK}{vs:List Value}{ds:List D}(h:ga tt Pp n bT vs ds):∀{j:Nat}{ck:CK}{v:Value}{d:D},bT[j]? =some ck->vs[j]? =some v->ds[j]? =some d->RD tt Pp ck v d/\Bd n d:=by
 induction h with
 |nil=>intro j ck v d h;simp at h
 |cons ck v d bT vs ds h hb _ a=>
  intro j b c d' h1 h2 h3;cases j with
  |zero=>simp at h1 h2 h3;subst h1 h2 h3;exact⟨h,hb⟩
  |succ j=>exact a (yU h1) (yU h2) (yU h3)
theorem ga.bd{bT:List CK}{vs:List Value}{ds:List D}(h:ga tt Pp n bT vs ds):∀d∈ds,Bd n d:=by
 induction h with
 |nil=>intro d a;simp at a
 |cons ck v d bT vs ds h hb _ b=>
  intro d' a;rcases bN.1 a with rfl|a
  ·exact hb
  ·exact b d' a
theorem ga.mG:∀{bT:List CK}{vs:List Value}{ds:List D},vs.length=bT.length->ds.length=bT.length->
 (∀(j:Nat)(ck:CK)(v:Value)(d:D),bT[j]? =some ck->vs[j]? =some v->ds[j]? =some d->RD tt Pp ck v d/\Bd n d)->ga tt Pp n bT vs ds
 |[],[],[],_,_,_=>.nil
 |ck::bT,v::vs,d::ds,h1,h2,h=>.cons _ _ _ _ _ _ (h 0 ck v d rfl rfl rfl).1 (h 0 ck v d rfl rfl rfl).2 (ga.mG (yU h1) (yU h2) λj ck v d a b c=>h (j+1) ck v d (yU a) (yU b) (yU c))
 |[],_::_,_,h1,_,_=>yE h1
 |[],[],_::_,_,h2,_=>yE h2
 |_::_,[],_,h1,_,_=>yE h1
 |_::_,_::_,[],_,h2,_=>yE h2
theorem RD.rows{e:TypeId}{v:Value}{d:D}(h:RD tt Pp (.slice e) v d)(hb:Bd n d):∃rows,d= .list rows/\rows.length<=n/\∀row∈rows,∃vs,ga tt Pp n (bR tt e) vs row:=by
 cases hb with
 |list rows hl hr=>
  refine⟨rows,rfl,hl,?_⟩;cases h with
  |slnil=>intro row h;simp at h
  |EY=>intro row h;simp at h
  |sl _ b o len cap _ vf hlen hc dG gR gV=>intro row a;obtain⟨i,c⟩:=fF a;refine⟨(fb (bR tt e).length).map (vf i),ga.mG yS (dG i row c) ?_⟩;intro j ck v d h1 h2 h3;have f:=cx h1;simp[f]at h2;subst h2;exact⟨gV i j row d ck c h3 h1,hr row a d (fi h3)⟩
 |int=>cases h
 |bool=>cases h
 |str=>cases h
 |nil=>cases h
 |ptr=>cases h
theorem lift_map{α β:Type}{f:α->β}{p:α->Prop}:∀{rows:List β},(∀r∈rows,∃x,r=f x/\p x)->∃l:List α,rows=l.map f/\∀x∈l,p x
 |[],_=>⟨[],rfl,λx h=>yE h⟩
 |r::rows,h=>by
  obtain⟨x,rfl,b⟩:=h r yS;obtain⟨l,rfl,hl⟩:=lift_map (rows:=rows) (λr hr=>h r (by simp[hr]));refine⟨x::l,rfl,λy a=>?_⟩;rcases bN.1 a with rfl|a
  ·exact b
  ·exact hl y a
end
theorem tu{f:Nat->Nat}:∀{len:Nat}{l:List Nat},(∀i,i<len->f i<=l.getD i 0)->len<=l.length->((fb len).map f).sum<=l.sum
 |len,[],_,hl=>by simp at hl;subst hl;simp
 |0,l,_,_=>yS
 |len+1,x::l,h,hl=>by rw[List.range_succ_eq_map,bJ,cm,ia,cm];have h0:=h 0 yO;have:=tu (f:=f∘Nat.succ) (len:=len) (l:=l) (λi a=>by have:=h (i+1) yO;simpa using this) (yU hl);simp at h0;omega
def CW(tt:TypeId->Option TI)(S:List TypeId):Nat->List (Nat×TypeId)->List CK->Bool
 |_,[],bT=>bT.isEmpty
 |off,(o,a)::fs,bT=>nb o off&&S.contains a&&decide (bT.take (bR tt a).length=bR tt a)&&CW tt S (off+(bR tt a).length) fs (bT.drop (bR tt a).length)
def Es(tt:TypeId->Option TI)(S:List TypeId)(t:TypeId):Bool:=match tt t with
 |none=>false
 |some ti=>match ti.agg with
  |true=>nb ti.ar 0&&CW tt S 0 ti.fs ti.bT
  |false=>match ti.bT with
   |[.int _]=>true
   |[.bool]=>true
   |[.str]=>true
   |[.slice e]=>S.contains e&& !(bR tt e).isEmpty
   |_=>false
section
variable {P:Program}{tt:TypeId->Option TI}{H:Type}{enc:TypeId×Value->H}{w:World}{n:Nat}
variable {S:List TypeId}{W:World}
theorem GC(a:ec P tt){t:TypeId}{ti:TI}(h:tt t=some ti):P.cellsOf t=(bR tt t).length:=by obtain⟨i,z,d,b,fh,_⟩:=(a t ti h).info;simp[Program.cellsOf,b,bR,h,fh]
theorem zh{base:Nat}{a:Addr}{m:Nat}{cs:List Value}(h:w.cells? base a m=some cs):cs.length=m/\∀j,j<m->w.cell? (a.add j)=cs[j]? :=by
 unfold World.cells? at h;split at h
 ·exact⟨by simpa using mapM_some_length h,λj b=>mapM_some_get h j j (by simp[b])⟩
 ·cases h
theorem CV{fuel:Nat}{cs:List Value}{bulk:DataW H->Nat}(hcell:∀ft,S.contains ft=true->P.cellsOf ft=(bR tt ft).length):
 ∀(xs:List (DataW H×List MemPlace))(fs:List (Nat×TypeId))(off:Nat)(bT:List CK),
  (∀(t:TypeId)(cs:List Value)(x:DataW H×List MemPlace),S.contains t=true->x∈xs->DataW.trod enc P w 0 (λ_=>true) true fuel t cs=some x->∃ds,ga tt (Cr w) n (bR tt t) cs ds/\jV ds<=bulk x.1)->
  CW tt S off fs bT=true->cs.length=off+bT.length->
  (∀(i o:Nat)(ft:TypeId),fs[i]? =some (o,ft)->∃x,xs[i]? =some x/\DataW.trod enc P w 0 (λ_=>true) true fuel ft ((cs.drop o).take (P.cellsOf ft))=some x)->
  ∃ds,ga tt (Cr w) n bT (cs.drop off) ds/\jV ds<=(xs.map λx=>bulk x.1).sum
 |xs,[],off,bT,_,h,hl,_=>by simp only[CW,List.isEmpty_iff]at h;subst h;simp at hl;rw[fo yO];exact⟨[],.nil,by simp[jV]⟩
 |[],(o,ft)::fs,off,bT,_,h,hl,hx=>by obtain⟨x,hm,_⟩:=hx 0 o ft rfl;simp at hm
 |x0::xs,(o,ft)::fs,off,bT,ih,h,hl,hx=>by
  simp only[CW,bw,decide_eq_true_eq]at h;obtain⟨⟨⟨h1,h2⟩,h3⟩,h4⟩:=h;have:=cR h1;subst this;obtain⟨x,hm,ht⟩:=hx 0 o ft rfl;simp at hm;subst hm;obtain⟨ds1,hd1,hw1⟩:=ih _ _ _ h2 yS ht;rw[hcell ft h2]at hd1;have hlen:(bR tt ft).length<=bT.length:=by have:=congrArg iS h3;simp at this;omega
  obtain⟨ds2,hd2,hw2⟩:=CV (cs:=cs) hcell xs fs (o+(bR tt ft).length) (bT.drop (bR tt ft).length) (λt cs x a b c=>ih t cs x a (by simp[b]) c) h4 yQ (λi o ft hi=>by obtain⟨x,h5,h6⟩:=hx (i+1) o ft (yU hi);exact⟨x,yU h5,h6⟩);refine⟨ds1++ds2,?_,by rw[G4,bJ,cm];omega⟩;have:=hd1.append hd2;rw[<- h3]at this;rw[show (List.take (bR tt ft).length bT).length=(bR tt ft).length by rw[h3]]at this
  rwa [cX,<-List.drop_drop,cX]at this
theorem CT(Q:ec P tt)(hS:S.all (Es tt S)=true)(hU:S.all (K3 tt)=true){bulk:DataW H->Nat}(hb:Nl bulk):
 ∀(fuel:Nat)(t:TypeId)(cs:List Value)(x:DataW H×List MemPlace),S.contains t=true->DataW.trod enc P w 0 (λ_=>true) true fuel t cs=some x->bulk x.1<=n->∃ds,ga tt (Cr w) n (bR tt t) cs ds/\jV ds<=bulk x.1:=by
 have O:∀t,S.contains t=true->Es tt S t=true:=λt I=>eF.1 hS t (yU I)
 have q:∀t,S.contains t=true->P.cellsOf t=(bR tt t).length:=by
  intro t I;have:=O t I;unfold Es at this;split at this
  ·cases this
  ·rename_i ti B;exact GC Q B
 intro fuel;induction fuel with
 |zero=>intro t cs x _ h;simp[DataW.trod]at h
 |succ fuel ih=>
  intro t cs x I h G;have l:=O t I;have af:=q t I;unfold Es at l;split at l
  ·cases l
  rename_i ti B;have R:bR tt t=ti.bT:=by simp[bR,B]
  obtain⟨i,z,d,p,fh,_,_,_,_,hu,c⟩:=(Q t ti B).info;rw[R]at af ⊢;cases d with
  |int k=>
   obtain⟨m,rfl,rfl,ab⟩:=DataW.trod_int hu h;have ac:k≠ .u64:=by rintro rfl;have:=eF.1 hU t (yU I);rw[K3,B]at this;simp[c.2.1]at this
   rw[c.2.1];exact⟨_,.cons _ _ _ _ _ _ (.int _ _) (.int _ (wf_i64 ab ac)) .nil,by simp only[jV,wD];exact hb.one _⟩
  |bool=>obtain⟨m,rfl,rfl⟩:=DataW.trod_bool hu h;rw[c.2.1];exact⟨_,.cons _ _ _ _ _ _ (.bool _) (.bool _) .nil,by simp only[jV,wD];exact hb.one _⟩
  |string=>obtain⟨s,rfl,rfl,_⟩:=DataW.trod_string hu h;rw[c.2.1];exact⟨_,.cons _ _ _ _ _ _ (.str _) (.str _ (bQ (hb.str _) G)) .nil,by simp only[jV,wD];exact hb.one _⟩
  |struct fields=>
   obtain⟨ha,hf,_⟩:=c;rw[ha]at l;simp only[bw]at l;obtain⟨xs,m,hm,rfl,hl,ao,hx⟩:=DataW.trod_struct hu h;cases hm;have V:∀y∈xs,bulk y.1<=n:=λy hy=>bQ (hb.agg _ _ (bP.2 ⟨y,hy,rfl⟩)) G;have:=CV (n:=n) (cs:=cs) (bulk:=bulk) q xs ti.fs 0 ti.bT (λt' g x' h1 h2 h3=>ih t' g x' h1 h3 (V _ h2)) l.2 yO ?_
   ·obtain⟨ds,h1,h2⟩:=this;refine⟨ds,yU h1,bQ h2 ?_⟩;have:=hb.S6 (xs.map (·.1));rw[ia]at this;exact this
   ·intro j o ft F;rw[<- hf j]at F;rw[p6]at F;obtain⟨f,J,he⟩:=F;cases he
    have c8:j<fields.size:=by
     rcases bV j fields.size with h'|h'
     ·exact h'
     ·rw[cC h']at J;cases J
    have:=hx j f J;rw[bx yO]at this;exact⟨_,bx yO,this⟩
  |slice e=>
   obtain⟨ha,C,_⟩:=c;rw[ha,C]at l;simp only[bw,ib,List.isEmpty_eq_false_iff]at l;obtain⟨he,X⟩:=l;have ag:=q e he;have M:0<(bR tt e).length:=gx.2 X;rw[C];rcases DataW.trod_slice hu h with⟨rfl,rfl⟩|⟨a,len,cap,elems,rest,m,hm,rfl,rfl,_,ai,am,ar,E,K,_⟩
   ·exact⟨_,.cons _ _ _ _ _ _ (.slnil _) (.list _ yS (λrow h=>yE h)) .nil,by simp only[jV,wD,Nv];exact hb.one _⟩
   ·cases hm;obtain⟨ax,N⟩:=K rfl;have L:=hb.slice (elems.map (·.1)) (rest.map (·.1));rw[ag]at E N;by_cases Y:cap=0
    ·subst Y;have:len=0:=yO;subst this;exact⟨_,.cons _ _ _ _ _ _ (.EY _ a) (.list _ yS (λrow h=>yE h)) .nil,by simp only[jV,wD,Nv];exact hb.one _⟩
    ·
     have A:a.spot=none:=by
      have:∃g,w.cells? 0 (a.add 0) (bR tt e).length=some g:=by
       by_cases Z:0<len
       ·have:=E 0 Z;rw[bx yO,kG]at this;obtain⟨g,h1,_⟩:=this;exact⟨g,yU h1⟩
       ·have:=N 0 yO;rw[bx yO,kG]at this;obtain⟨g,h1,_⟩:=this;have hz:len=0:=yO;subst hz;exact⟨g,yU h1⟩
      obtain⟨g,h1⟩:=this;obtain⟨h2,h3⟩:=zh h1;have:=h3 0 M;rw[bx yO]at this;simpa[Addr.add]using World.cell?_spot this
     obtain⟨b,o,sp⟩:=a;simp only at A;subst A
     have key:∀i,∃g ds,i<len->(g.length=(bR tt e).length/\(∀j,j<(bR tt e).length->w.cell? ⟨b,o+i*(bR tt e).length+j,none⟩=g[j]?)/\ga tt (Cr w) n (bR tt e) g ds/\jV ds<=(elems.map λx=>bulk x.1).getD i 0):=by
      intro i;by_cases p:i<len
      ·have:=E i p;rw[bx yO,kG]at this;obtain⟨g,h1,h2⟩:=this;have al:bulk (elems[i]'yO).1<=n:=bQ (L.2 _ (bP.2 ⟨_,bu _,rfl⟩)) G;obtain⟨ds,aa,aj⟩:=ih e g _ he h2 al;obtain⟨h3,h4⟩:=zh h1;refine⟨g,ds,λ_=>⟨h3,λj F=>?_,aa,by rw[fN,cu,bx yO];exact aj⟩⟩;have:=h4 j F
       rwa [fg,fg]at this
      ·exact⟨[],[],λh=>absurd h p⟩
     have⟨cf,key⟩:=JN.1 key;have⟨T,key⟩:=JN.1 key;have r:∀(i:Nat)(row:List D),((fb len).map T)[i]? =some row->i<len/\row=T i:=by intro i row p;have c8:=cx p;simp at c8;simp[c8]at p;exact⟨c8,p.symm⟩
     refine⟨_,.cons _ _ _ _ _ _ (.sl e b o len cap ((fb len).map T) (λi j=>(cf i).getD j undef) yS ai ?_ ?_ ?_) (.list _ ?_ ?_) .nil,?_⟩
     ·intro i row p;obtain⟨c8,rfl⟩:=r i row p;exact(key i c8).2.2.1.len.2
     ·intro i j p F;obtain⟨U,k2,_⟩:=key i p;have:=k2 j F;rw[bx yO]at this;show w.cell? _=some _;rw[this];simp[fN,U,F]
     ·intro i j row d ck p F C;obtain⟨c8,rfl⟩:=r i row p;obtain⟨U,_,k3,_⟩:=key i c8;have ae:=cx C;exact(k3.get C (v:=(cf i).getD j undef) (by rw[bx yO];simp[fN,U,ae]) F).1
     ·have h1:=L.1;have h2:bulk (DataW.slice (elems.map (·.1)) (rest.map (·.1)))<=n:=G;rw[bL]at h1;rw[bL,List.length_range];omega
     ·intro row dG d ak;obtain⟨i,p⟩:=fF dG;obtain⟨c8,rfl⟩:=r i row p;exact(key i c8).2.2.1.bd d ak
     ·simp only[jV,wD];have u:=hb.S5 (elems.map (·.1)) (rest.map (·.1));rw[ia]at u;have u:1+(elems.map λx=>bulk x.1).sum<=bulk (DataW.slice (elems.map (·.1)) (rest.map (·.1))):=u;have aB:Nv ((fb len).map T)<=(elems.map λx=>bulk x.1).sum:=by rw[Br,ia];exact tu (λi p=>(key i p).2.2.2) (by rw[bL];omega)
      omega
  |array m e=>obtain⟨ha,ap,_⟩:=c;rw[ha]at l;simp only[bw]at l;have:=cR l.1;omega
  |pointer e=>rw[c.1,c.2.1]at l;cases l
  |map k e=>rw[c.1,c.2.1]at l;cases l
  |func=>rw[c.1,c.2.1]at l;cases l
  |_=>exact c.elim
def Nn(w:World):fE:=λad v=>w.cell? ad=some v\/(ad.spot=some 1/\pc w ad=some v)
def Vp(tt:TypeId->Option TI)(w:World):Prop:=(∀b,vj tt=some b->∃m:Int,w.cell? ⟨b,0,none⟩=some (.int .i64 m))/\
 ∀g,g∈vh tt->∃T f,w.heap[g.1]? =some (.cells (g.2.2.map (Value.int g.2.1)).toArray T f)
theorem Vp.glF{w:World}(h:Vp tt w):MV tt (Nn w):=⟨λb hb=>(h.1 b hb).imp λ_ c=>.inl c,λg a=>by
 obtain⟨T,f,hc⟩:=h.2 g a;refine⟨.inr ⟨rfl,?_⟩,λi z hz=>.inl ?_⟩
 ·simp only[pc,hc,if_true,PA,bL]
 ·simp only[World.cell?,hc];simp[hz]⟩
theorem Nn.wr(w:World)(a:Vp tt w):WR tt [] (Nn w) [] w:=⟨rfl,λ_ _ h=>h.elim gm (·.2),λi o h=>yE h,λi j oi oj ri rj b h=>yE h,a.glF⟩
theorem rZ(hl:laidOutB P=true){c:World}(hb:Go.RowKit.Below W.heap.size W c){sp:Nat->Bool}:∀{ts:List TypeId}{vs:List Value}{ds:List (DataW H)}{ps:List MemPlace},(∀t∈ts,P.readableRec t=true/\t<P.types.size)->
 DataW.TrodAll enc P W 0 (λ_=>true) true ts vs ds ps->(∀p∈ps,p.block<W.heap.size)->(∀p∈ps,sp p.block=true)->DataW.TrodAll enc P c 0 sp true ts vs ds ps
 |[],[],[],_,_,h,_,_=>h
 |_::_,_::_,_::_,_,b,⟨p,q,h1,h2,e⟩,c8,hs=>by subst e;refine⟨p,q,WideElems.Trod_stays hl (b _ yS).1 (b _ yS).2 h1 (λx a=>hb.same (c8 x (by simp[a]))) (λx a=>hs x (by simp[a])),?_,rfl⟩;exact rZ hl hb (λt h=>b t (by simp[h])) h2 (λx a=>c8 x (by simp[a])) (λx a=>hs x (by simp[a]))
theorem Lp{fn:Func}{s:ChangeSpec}{j fresh b:Bool}{f:FuncId}{vals:List Value}{ds D:List (DataW H)}{l:List MemPlace}{tb:TypeId}{c:Code}
 (m:DataW.Whole enc P fn.params.toList s.vars j W vals ds D l) (g:s.vars=[]) (hl:laidOutB P=true) (hr:∀t∈fn.params.toList,P.readableRec t=true/\t<P.types.size)
 (u:fn.resultTypes= #[tb]) (z:P.underlying tb=some .bool) (a:(s.fn H ds).results=[.lit (.bool true)]/\(s.fn H ds).args=ds/\(s.fn H ds).vars=[])
 (hf:Has P f fn c) {args:List PV} (G:eJ tt [] (Cr W) vals args) (C:Vp tt W) (h:FC P tt f [] args λv _=>v= .bool true):
 Calls P f ⟨vals⟩ W λe y=>∃v,e= .returned v/\s.post enc P fn j fresh b false W ⟨vals⟩ v y:=by
 have c8:=m.lt;have o:=m;obtain⟨p,q,E,B,rfl,I,fR⟩:=m;rw[g]at B;obtain⟨rfl,rfl⟩:=trodVars_none B;rw[cA]at c8;rcases h [] (Nn W) W vals (Nn.wr W C) (G.mono (λ_ _ h=>h) λ_ _ h=>.inl h)with⟨_,hc⟩|⟨v,w',hc,_⟩
 ·refine hc.mono ?_;rintro e y ⟨v,E',Pp',objs',pv,rfl,_,_,_,r,rfl,d,_⟩;cases r;have hb:Go.RowKit.Below W.heap.size W y:=⟨d.os,d.tape,d.output,d.size,λk hk=>d.block k hk nr⟩;refine⟨_,rfl,ds,[],_,[],p,[],o,?_,?_,?_,?_,λh=>yC h⟩
  ·rw[cA,a.1,u];exact trodAll_mk1 (Go.RowKit.shut_bool z true)
  ·rw[cA,a.2.1];exact rZ hl hb hr E c8 (λx F=>by simpa using c8 x F)
  ·rw[cA,a.2.2,g];rfl
  ·refine⟨hb.os,hb.output,λi A=>?_⟩;rw[hb.block i A];exact(World.keptBut_refl W (λx=>x∈p++[]/\(x∈[]\/x∈p\/x∈[]))).2.2 i A
 ·rw[mn hf.f hf.b hf.name]at hc;cases hc
end
end
end Go.VC
namespace Go.VC
open Go
@[reducible] def Wl:Inhabited pB:=⟨⟨False⟩⟩
@[reducible] def XY:Inhabited pB:=⟨⟨True⟩⟩
instance instDrT:Inhabited pB:=Wl
def FC.tl{i:Inhabited pB}{P:Program}{tt:TypeId->Option TI}{f:FuncId}{objs:List Ob}{args:List PV}{K:PV->List Ob->Prop}(h: @FC i P tt f objs args K): @FC Wl P tt f objs args K:=by intro E Pp w vals g j;refine mc.mono (h E Pp w vals g j) ?_;rintro e w' ⟨v,E',Pp',objs',pv,a,b,c,d,e,k,fr,m,l⟩;exact⟨v,E',Pp',objs',pv,a,b,c,d,e,k,@Fr.mk Wl _ _ _ (@Fr.os i _ _ _ fr) (@Fr.tape i _ _ _ fr) (@Fr.output i _ _ _ fr) (@Fr.size i _ _ _ fr) (λh=>False.elim h) (@Fr.block i _ _ _ fr),m,l⟩
end Go.VC
namespace Go.VC.cG
open Go Go.VC Go.Proofs
def Iw:List (TypeId×TI):=[
 (1,{ agg:=false,bT:=[.fn],fs:=[],el:=0,ar:=0,bytes:=8 }),
 (3,{ agg:=false,bT:=[.int .i64],fs:=[],el:=0,ar:=0,bytes:=8,TF:=some 3,TC:=[(0,.u64,Lib.pow10Tab)] }),
 (4,{ agg:=false,bT:=[.bool],fs:=[],el:=0,ar:=0,bytes:=1 }),
 (5,{ agg:=false,bT:=[.int .u8],fs:=[],el:=0,ar:=0,bytes:=1 }),
 (9,{ agg:=false,bT:=[.str],fs:=[],el:=0,ar:=0,bytes:=16 }),
 (21,{ agg:=false,bT:=[.int .i32],fs:=[],el:=0,ar:=0,bytes:=4 }),
 (22,{ agg:=false,bT:=[.slice 97],fs:=[],el:=97,ar:=0,bytes:=24 }),
 (23,{ agg:=false,bT:=[.slice 97],fs:=[],el:=97,ar:=0,bytes:=24 }),
 (24,{ agg:=false,bT:=[.slice 73],fs:=[],el:=73,ar:=0,bytes:=24 }),
 (25,{ agg:=false,bT:=[.slice 73],fs:=[],el:=73,ar:=0,bytes:=24 }),
 (26,{ agg:=false,bT:=[.slice 29],fs:=[],el:=29,ar:=0,bytes:=24 }),
 (27,{ agg:=false,bT:=[.slice 57],fs:=[],el:=57,ar:=0,bytes:=24 }),
 (29,{ agg:=true,bT:=[.int .i64,.str,.str,.slice 29,.slice 57],fs:=[(0,3),(1,9),(2,9),(3,26),(4,27)],el:=0,ar:=0,bytes:=88 }),
 (32,{ agg:=false,bT:=[.slice 60],fs:=[],el:=60,ar:=0,bytes:=24 }),
 (39,{ agg:=false,bT:=[.slice 23],fs:=[],el:=23,ar:=0,bytes:=24 }),
 (40,{ agg:=false,bT:=[.slice 45],fs:=[],el:=45,ar:=0,bytes:=24 }),
 (41,{ agg:=false,bT:=[.int .i64],fs:=[],el:=0,ar:=0,bytes:=8 }),
 (45,{ agg:=true,bT:=[.int .i64,.str,.str,.int .i64,.slice 73,.int .i64,.str,.str,.slice 29,.slice 57,.int .i64,.str,.str,.slice 29,.slice 57],fs:=[(0,3),(1,9),(2,9),(3,3),(4,24),(5,29),(10,29)],el:=0,ar:=0,bytes:=248 }),
 (46,{ agg:=false,bT:=[.slice 50],fs:=[],el:=50,ar:=0,bytes:=24 }),
 (50,{ agg:=true,bT:=[.int .i64,.str,.str,.slice 29,.slice 57,.int .i64,.str,.str,.slice 29,.slice 57],fs:=[(0,29),(5,29)],el:=0,ar:=0,bytes:=176 }),
 (57,{ agg:=true,bT:=[.str,.int .i64,.str,.str,.slice 29,.slice 57,.bool],fs:=[(0,9),(1,29),(6,4)],el:=0,ar:=0,bytes:=112 }),
 (60,{ agg:=true,bT:=[.int .i64,.int .i64,.str,.str,.slice 29,.slice 57,.int .i64,.str,.str,.slice 29,.slice 57],fs:=[(0,3),(1,29),(6,29)],el:=0,ar:=0,bytes:=184 }),
 (66,{ agg:=false,bT:=[.slice 70],fs:=[],el:=70,ar:=0,bytes:=24 }),
 (68,{ agg:=false,bT:=[.slice 9],fs:=[],el:=9,ar:=0,bytes:=24 }),
 (70,{ agg:=true,bT:=[.slice 9,.bool,.int .i64,.int .i64,.str,.str,.slice 29,.slice 57,.int .i64,.str,.str,.slice 29,.slice 57],fs:=[(0,68),(1,4),(2,3),(3,29),(8,29)],el:=0,ar:=0,bytes:=216 }),
 (73,{ agg:=true,bT:=[.str,.int .i64,.int .i64,.str,.str,.slice 29,.slice 57],fs:=[(0,9),(1,3),(2,29)],el:=0,ar:=0,bytes:=112 }),
 (76,{ agg:=false,bT:=[.ptr 129],fs:=[],el:=0,ar:=0,bytes:=8 }),
 (79,{ agg:=false,bT:=[.fn],fs:=[],el:=0,ar:=0,bytes:=8 }),
 (80,{ agg:=false,bT:=[.map 80 4],fs:=[],el:=4,ar:=10,bytes:=8 }),
 (81,{ agg:=false,bT:=[.fn],fs:=[],el:=0,ar:=0,bytes:=8 }),
 (83,{ agg:=false,bT:=[.slice 3],fs:=[],el:=3,ar:=0,bytes:=24 }),
 (91,{ agg:=true,bT:=[.str,.slice 73,.int .i64,.str,.str,.slice 29,.slice 57],fs:=[(0,9),(1,24),(2,29)],el:=0,ar:=0,bytes:=128 }),
 (92,{ agg:=false,bT:=[.slice 91],fs:=[],el:=91,ar:=0,bytes:=24 }),
 (93,{ agg:=false,bT:=[.slice 136],fs:=[],el:=136,ar:=0,bytes:=24 }),
 (94,{ agg:=false,bT:=[.slice 210],fs:=[],el:=210,ar:=0,bytes:=24 }),
 (95,{ agg:=false,bT:=[.slice 213],fs:=[],el:=213,ar:=0,bytes:=24 }),
 (97,{ agg:=true,bT:=[.str,.slice 136,.slice 91,.slice 210,.slice 213],fs:=[(0,9),(1,93),(2,92),(3,94),(4,95)],el:=0,ar:=0,bytes:=112 }),
 (106,{ agg:=false,bT:=[.ptr 108],fs:=[],el:=0,ar:=0,bytes:=8 }),
 (108,{ agg:=true,bT:=[.slice 97,.slice 73,.map 80 4,.slice 9],fs:=[(0,23),(1,25),(2,80),(3,68)],el:=0,ar:=0,bytes:=80 }),
 (109,{ agg:=false,bT:=[.fn],fs:=[],el:=0,ar:=0,bytes:=8 }),
 (111,{ agg:=true,bT:=[.int .i64,.str,.str,.slice 29,.slice 57,.int .i64,.str,.str,.slice 29,.slice 57],fs:=[(0,29),(5,29)],el:=0,ar:=0,bytes:=176 }),
 (113,{ agg:=false,bT:=[.fn],fs:=[],el:=0,ar:=0,bytes:=8 }),
 (114,{ agg:=false,bT:=[.fn],fs:=[],el:=0,ar:=0,bytes:=8 }),
 (116,{ agg:=false,bT:=[.map 116 3],fs:=[],el:=3,ar:=10,bytes:=8 }),
 (118,{ agg:=false,bT:=[.slice 46],fs:=[],el:=46,ar:=0,bytes:=24 }),
 (120,{ agg:=false,bT:=[.ptr 122],fs:=[],el:=0,ar:=0,bytes:=8 }),
 (122,{ agg:=true,bT:=[.ptr 129,.slice 9,.bool,.map 80 4,.slice 70],fs:=[(0,76),(1,68),(2,4),(3,80),(4,66)],el:=0,ar:=0,bytes:=72 }),
 (129,{ agg:=true,bT:=[.slice 97,.slice 73,.slice 9,.map 80 4],fs:=[(0,23),(1,25),(2,68),(3,80)],el:=0,ar:=0,bytes:=80 }),
 (131,{ agg:=false,bT:=[.fn],fs:=[],el:=0,ar:=0,bytes:=8 }),
 (132,{ agg:=false,bT:=[.slice 131],fs:=[],el:=131,ar:=0,bytes:=24 }),
 (134,{ agg:=false,bT:=[.fn],fs:=[],el:=0,ar:=0,bytes:=8 }),
 (136,{ agg:=true,bT:=[.str,.slice 73,.int .i64,.str,.str,.slice 29,.slice 57,.int .i64,.str,.str,.slice 29,.slice 57],fs:=[(0,9),(1,24),(2,29),(7,29)],el:=0,ar:=0,bytes:=216 }),
 (141,{ agg:=false,bT:=[.fn],fs:=[],el:=0,ar:=0,bytes:=8 }),
 (143,{ agg:=false,bT:=[.fn],fs:=[],el:=0,ar:=0,bytes:=8 }),
 (144,{ agg:=false,bT:=[.fn],fs:=[],el:=0,ar:=0,bytes:=8 }),
 (146,{ agg:=false,bT:=[.fn],fs:=[],el:=0,ar:=0,bytes:=8 }),
 (157,{ agg:=false,bT:=[.fn],fs:=[],el:=0,ar:=0,bytes:=8 }),
 (158,{ agg:=false,bT:=[.fn],fs:=[],el:=0,ar:=0,bytes:=8 }),
 (163,{ agg:=false,bT:=[.map 163 158],fs:=[],el:=158,ar:=4,bytes:=8 }),
 (165,{ agg:=false,bT:=[.fn],fs:=[],el:=0,ar:=0,bytes:=8 }),
 (166,{ agg:=false,bT:=[.fn],fs:=[],el:=0,ar:=0,bytes:=8 }),
 (167,{ agg:=true,bT:=[.fn,.fn,.fn,.fn,.fn],fs:=[],el:=166,ar:=6,bytes:=40 }),
 (168,{ agg:=false,bT:=[.slice 111],fs:=[],el:=111,ar:=0,bytes:=24 }),
 (174,{ agg:=false,bT:=[.fn],fs:=[],el:=0,ar:=0,bytes:=8 }),
 (175,{ agg:=false,bT:=[.map 175 118],fs:=[],el:=118,ar:=10,bytes:=8 }),
 (178,{ agg:=false,bT:=[.fn],fs:=[],el:=0,ar:=0,bytes:=8 }),
 (180,{ agg:=false,bT:=[.slice 184],fs:=[],el:=184,ar:=0,bytes:=24 }),
 (184,{ agg:=true,bT:=[.int .i64,.str,.str,.slice 29,.slice 57,.int .i64,.str,.str,.slice 29,.slice 57,.str,.bool],fs:=[(0,50),(10,9),(11,4)],el:=0,ar:=0,bytes:=200 }),
 (189,{ agg:=false,bT:=[.fn],fs:=[],el:=0,ar:=0,bytes:=8 }),
 (190,{ agg:=false,bT:=[.ptr 193],fs:=[],el:=0,ar:=0,bytes:=8 }),
 (191,{ agg:=false,bT:=[.slice 5],fs:=[],el:=5,ar:=0,bytes:=24 }),
 (193,{ agg:=true,bT:=[.ptr 193,.slice 5],fs:=[(0,190),(1,191)],el:=0,ar:=0,bytes:=32,O0:=true }),
 (210,{ agg:=true,bT:=[.str,.str,.str],fs:=[(0,9),(1,9),(2,9)],el:=0,ar:=0,bytes:=48 }),
 (213,{ agg:=true,bT:=[.str,.str],fs:=[(0,9),(1,9)],el:=0,ar:=0,bytes:=32 }),
 (215,{ agg:=false,bT:=[.ptr 136],fs:=[],el:=0,ar:=0,bytes:=8 }),
 (216,{ agg:=false,bT:=[.ptr 91],fs:=[],el:=0,ar:=0,bytes:=8 }),
 (217,{ agg:=false,bT:=[.ptr 210],fs:=[],el:=0,ar:=0,bytes:=8 }),
 (219,{ agg:=true,bT:=[.str,.str,.ptr 136,.ptr 91,.ptr 210],fs:=[(0,9),(1,9),(2,215),(3,216),(4,217)],el:=0,ar:=0,bytes:=56 }),
 (225,{ agg:=false,bT:=[.fn],fs:=[],el:=0,ar:=0,bytes:=8 }),
 (229,{ agg:=false,bT:=[.fn],fs:=[],el:=0,ar:=0,bytes:=8 }),
 (250,{ agg:=false,bT:=[.int .u64],fs:=[],el:=0,ar:=0,bytes:=8 }),
 (253,{ agg:=false,bT:=[.map 253 68],fs:=[],el:=68,ar:=10,bytes:=8 }),
 (256,{ agg:=false,bT:=[.slice 259],fs:=[],el:=259,ar:=0,bytes:=24 }),
 (259,{ agg:=true,bT:=[.str,.str],fs:=[(0,9),(1,9)],el:=0,ar:=0,bytes:=32,yW:=true }),
 (260,{ agg:=false,bT:=[.fn],fs:=[],el:=0,ar:=0,bytes:=8 }),
 (262,{ agg:=false,bT:=[.fn],fs:=[],el:=0,ar:=0,bytes:=8 }),
 (263,{ agg:=false,bT:=[.fn],fs:=[],el:=0,ar:=0,bytes:=8 }),
 (268,{ agg:=false,bT:=[.fn],fs:=[],el:=0,ar:=0,bytes:=8 }),
 (270,{ agg:=false,bT:=[.fn],fs:=[],el:=0,ar:=0,bytes:=8 }),
 (271,{ agg:=false,bT:=[.slice 27],fs:=[],el:=27,ar:=0,bytes:=24 }),
 (276,{ agg:=false,bT:=[.fn],fs:=[],el:=0,ar:=0,bytes:=8 }),
 (281,{ agg:=false,bT:=[.int .u64],fs:=[],el:=0,ar:=0,bytes:=8 }),
 (287,{ agg:=false,bT:=[.int .i64],fs:=[],el:=0,ar:=0,bytes:=8 }),
 (298,{ agg:=false,bT:=[.fn],fs:=[],el:=0,ar:=0,bytes:=8 }),
 (300,{ agg:=false,bT:=[.fn],fs:=[],el:=0,ar:=0,bytes:=8 }),
 (302,{ agg:=false,bT:=[.fn],fs:=[],el:=0,ar:=0,bytes:=8 }),
 (304,{ agg:=true,bT:=[.slice 97,.str,.slice 136,.slice 91,.slice 210,.slice 213],fs:=[(0,23),(1,97)],el:=0,ar:=0,bytes:=136 }),
 (305,{ agg:=false,bT:=[.fn],fs:=[],el:=0,ar:=0,bytes:=8 }),
 (306,{ agg:=false,bT:=[.slice 305],fs:=[],el:=305,ar:=0,bytes:=24 }),
 (307,{ agg:=false,bT:=[.map 307 4],fs:=[],el:=4,ar:=260,bytes:=8 }),
 (309,{ agg:=false,bT:=[.fn],fs:=[],el:=0,ar:=0,bytes:=8 }),
 (310,{ agg:=false,bT:=[.fn],fs:=[],el:=0,ar:=0,bytes:=8 }),
 (314,{ agg:=false,bT:=[.fn],fs:=[],el:=0,ar:=0,bytes:=8 }),
 (317,{ agg:=false,bT:=[.fn],fs:=[],el:=0,ar:=0,bytes:=8 }),
 (323,{ agg:=false,bT:=[.int .u64],fs:=[],el:=0,ar:=0,bytes:=8 }),
 (327,{ agg:=false,bT:=[.ptr 3],fs:=[],el:=0,ar:=0,bytes:=8 }),
 (332,{ agg:=true,bT:=[.slice 9,.slice 9,.slice 9,.slice 9],fs:=[],el:=68,ar:=5,bytes:=96 }),
 (333,{ agg:=true,bT:=[.fn,.fn,.fn,.fn],fs:=[],el:=189,ar:=5,bytes:=32 }),
 (340,{ agg:=false,bT:=[.slice 68],fs:=[],el:=68,ar:=0,bytes:=24 }),
 (343,{ agg:=false,bT:=[.fn],fs:=[],el:=0,ar:=0,bytes:=8 }),
 (352,{ agg:=false,bT:=[.map 352 136],fs:=[],el:=136,ar:=10,bytes:=8 }),
 (353,{ agg:=false,bT:=[.map 353 80],fs:=[],el:=80,ar:=10,bytes:=8 }),
 (355,{ agg:=true,bT:=[.slice 97,.map 352 136,.map 353 80],fs:=[(0,23),(1,352),(2,353)],el:=0,ar:=0,bytes:=40 }),
 (364,{ agg:=false,bT:=[.slice 41],fs:=[],el:=41,ar:=0,bytes:=24 }),
 (366,{ agg:=false,bT:=[.fn],fs:=[],el:=0,ar:=0,bytes:=8 }),
 (367,{ agg:=false,bT:=[.fn],fs:=[],el:=0,ar:=0,bytes:=8 }),
 (381,{ agg:=false,bT:=[.fn],fs:=[],el:=0,ar:=0,bytes:=8 }),
 (382,{ agg:=false,bT:=[.fn],fs:=[],el:=0,ar:=0,bytes:=8 }),
 (384,{ agg:=false,bT:=[.fn],fs:=[],el:=0,ar:=0,bytes:=8 })]
def tt:TypeId->Option TI:=v8 Iw
def QG:tq Tryz.prog Iw=true:=by kernel_rfl
def Rq:po Tryz.prog Iw=true:=by kernel_rfl
def k9:ec Tryz.prog tt:=O9 QG (Ei Rq)
def mixed:Tryz.prog.follows .mixedOrders=true:=by kernel_rfl
end Go.VC.cG
namespace Go.VC.cG
open Go Go.VC
instance instDrY:Inhabited pB:=XY
abbrev cf(n:Nat):ea:={tt:=tt,n:=n}
def g2:=cf 1
def g27:ea:={tt:=tt,n:=92,iT:=[(14,[0,1,2,3,4,5,6])]}
def g61:ea:={tt:=tt,n:=26,own:=[5]}
def g26:ea:={tt:=tt,n:=49,iT:=[(10,[0,1,2,3,4,5,6,7,8,9,10,11,12,13,14,15])]}
def g11:=cf 50
def g41:ea:={tt:=tt,n:=96,iT:=[(5,[0,1,2,3,4,5,6,7,8,9,10,11,12,13,14,15])]}
def g62:ea:={tt:=tt,n:=90,iT:=[(6,[0,1,2,3,4,5,6,7,8,9,10,11,12,13,14,15,16,17,18,19,20,21,22,23,24,25,26,27,28,29,30,31,32,33,34,35,36,37,38,39,40,41,42,43])]}
def g63:ea:={tt:=tt,n:=55,iT:=[(9,[0,1,2,3,4,6,7,8,9,10,5,11,12,13,14])]}
def XP:ea:={tt:=tt,n:=27,iT:=[(6,[0,1,2,3,4,5,6,7,8,9])]}
def XO:ea:={tt:=tt,n:=21,own:=[5]}
def XN:ea:={tt:=tt,n:=90,iT:=[(5,[0,1,2,3,4,5,6]),(11,[0,1,2,3,4,5,6,7,8,9,10,11,12,13])],own:=[44]}
def g28:ea:={tt:=tt,n:=29,iT:=[(4,[0,1,2]),(5,[0,1,2,3])]}
def g49:ea:={tt:=tt,n:=91,iT:=[(6,[0,1,2,3,4,5,6,7,8,9,10])]}
def g76:ea:={tt:=tt,n:=54,iT:=[(1,[0,1,3,4,2,6,5,7,8,9]),(5,[0,1,2,3,4,5,6]),(10,[0,1,2,3,4,5,6]),(12,[0,1,3,4,2,6,5,7,8,9])],nh:=[1,12]}
def Xw:ea:={tt:=tt,n:=60,iT:=[(14,[0,1,2,3,4,5])]}
def g64:ea:={tt:=tt,n:=55,iT:=[(7,[0,1,2,3,4,5,6,7,8,9,10,11,12,13,14,15,16,17,18,19]),(9,[0,1,2,3,4,5,6,7,8,9,10,11])]}
def XS:ea:={tt:=tt,n:=106,iT:=[(5,[0,1,2,3,4,5,6,7,8,9,10,11]),(19,[0,1,2,3,4,5,6,7,8,9,12,10,11,13,14])]}
def XR:ea:={tt:=tt,n:=149,iT:=[(3,[0,1,2,3,4,5,6,7,8,9,10,11,12,13,14,15]),(4,[0,1,2,3,4,5,6,7,8,9,10,11,12,13,14,15]),(13,[0,1,2,3,4,5,6,7,8,9,10,11,12,13,14]),(15,[0,1,2,3,4,5,6,7,8,9,10,11,12,13,14])],nh:=[5]}
def g87:ea:={tt:=tt,n:=48,iT:=[(11,[0,1,2,3,4,5,6])]}
def ZX:=cf 9
def XJ:ea:={tt:=tt,n:=8,own:=[5,2]}
def XI:ea:={tt:=tt,n:=8,own:=[5,2]}
def XH:ea:={tt:=tt,n:=15,iT:=[(1,[0,1,2,3,5,6,8,9,4,7,10,11,12])]}
def XG:ea:={tt:=tt,n:=12,iT:=[(1,[0,1,2,3,5,6,4,7,8,9])]}
def XF:ea:={tt:=tt,n:=8,own:=[5,2]}
def XE:ea:={tt:=tt,n:=8,own:=[5,2]}
def g82:ea:={tt:=tt,n:=36,qC:=[34,35],nh:=[6]}
def g84:ea:={tt:=tt,n:=36,qC:=[34,35],nh:=[6]}
def g86:ea:={tt:=tt,n:=23,iT:=[(2,[0,1,2,3,4,5,6,7])]}
def g79:ea:={tt:=tt,n:=9,live:=[149],dV:=[150],n0:=2}
def WT:ea:={tt:=tt,n:=4,n0:=1}
def g72:ea:={tt:=tt,n:=69,iT:=[(17,[0,1,2,3,4,5,6,7,8,9,10,11])],nh:=[2]}
def XL:ea:={tt:=tt,n:=69,iT:=[(14,[0,1,2,3,4,6,7,8,9,10,5,11,12,13,14])]}
def XA:ea:={tt:=tt,n:=85,iT:=[(7,[0,1,2,3,4,5,6,7,8,9,10,11,12,13]),(9,[0,1,2,3,4,5,6,7,8,9,10,11,12,13]),(14,[0,1,2,3,4,5])]}
def Ue:=cf 19
def Xz:ea:={tt:=tt,n:=68,live:=[200,202,80,79]}
def Rj:=cf 9
def Xs:ea:={tt:=tt,n:=8,own:=[5,2]}
def XK:ea:={tt:=tt,n:=8,own:=[5,2]}
def Xy:ea:={tt:=tt,n:=79,iT:=[(4,[0,1,3,4,2,6,5,7,8,9]),(8,[0,1,2,3,4,5,6,7,8]),(13,[0,1,2,3,4,5,6,7,8,9,10])],nh:=[4]}
def XB:ea:={tt:=tt,n:=40,iT:=[(8,[0,1,2,3,4,5,6,7,8,9,10,11])]}
def XD:ea:={tt:=tt,n:=5,live:=[194],dV:=[194],n0:=2}
def Uf:ea:={tt:=tt,n:=14,live:=[151],n0:=5}
def OJ:=cf 19
def Xv:ea:={tt:=tt,n:=16,n0:=2}
def Xu:ea:={tt:=tt,n:=21,live:=[251,250]}
def T3:ea:={tt:=tt,n:=21,n0:=3,Cz:=true,live:=[251,250]}
def Xt:ea:={tt:=tt,n:=16,live:=[200],n0:=3}
def Ri:=cf 19
def Xr:ea:={tt:=tt,n:=8,own:=[5,2]}
def T6:ea:={tt:=tt,n:=13,n0:=3}
def T5:ea:={tt:=tt,n:=13,n0:=3,Cz:=true}
def g7:=cf 37
def Rh:=cf 18
def Xq:ea:={tt:=tt,n:=38,iT:=[(5,[0,2,3,1,4,5,6])]}
def Xp:ea:={tt:=tt,n:=12,live:=[285],dV:=[286],n0:=2}
def T0:ea:={tt:=tt,n:=4,n0:=1}
def Xo:ea:={tt:=tt,n:=17,iT:=[(1,[0,1,2,3,5,6,7,8,4,9,10,11,12])]}
def Xn:ea:={tt:=tt,n:=8,live:=[256],n0:=3}
def Xm:ea:={tt:=tt,n:=23,live:=[256],n0:=5}
def g29:ea:={tt:=tt,n:=41,iT:=[(4,[0,1,2,3,4,5,6,7,8,9,10,11,12,13])]}
def g31:ea:={tt:=tt,n:=10,iT:=[(1,[0,1,3,4,2,5,6,7])]}
def Xi:ea:={tt:=tt,n:=61,iT:=[(5,[0,1,2,3,4,6,7,8,9,10,5,11,12,13,14]),(10,[0,1,3,2,4,5,6])]}
def Xh:ea:={tt:=tt,n:=46,iT:=[(8,[0,1,2,3,4,5,6,7,8])]}
def Xg:ea:={tt:=tt,n:=5,live:=[305],dV:=[305],n0:=2}
def TU:ea:={tt:=tt,n:=14,live:=[287],n0:=5}
def g65:ea:={tt:=tt,n:=59,iT:=[(17,[0,1,3,4,2,5,6,7])]}
def g67:ea:={tt:=tt,n:=57,iT:=[(5,[0,1,2,3,4,5,6,7,8,9,10,11,12,13])]}
def XQ:ea:={tt:=tt,n:=71,iT:=[(7,[0,1,2,3,4,5,6,7,8,9,10,11,12,13,14,15,16,17,18,19]),(9,[0,1,2,3,4,5,6,7,8,9,10,11,12,13,14,15,16,17,18,19])]}
def Xl:ea:={tt:=tt,n:=106,iT:=[(1,[0,1,2,3,4,5,6,7,8,9,10,11,12,13,14,15])]}
def TX:=cf 9
def Xk:ea:={tt:=tt,n:=33,iT:=[(4,[0,1,2,3,4,5,7,8,9,10,11,6,12,13,14])]}
def TT:ea:={tt:=tt,n:=31,iT:=[(6,[0,1,2,3,4,5,6])]}
def Xd:ea:={tt:=tt,n:=36,iT:=[(8,[0,1,2,3,4,5,6])]}
def TP:ea:={tt:=tt,n:=13,n0:=3}
def TO:ea:={tt:=tt,n:=13,n0:=3,Cz:=true}
def XM:ea:={tt:=tt,n:=85,iT:=[(17,[0,1,2,3,4,5,6,7,8,9,10,11,12,13])]}
def Xx:ea:={tt:=tt,n:=108,iT:=[(3,[0,1,2,3,4,5,6,7,8,9,10,11,12,13,14,15,16,17]),(4,[0,1,2,3,4,5,6,7,8,9,10,11,12,13,14,15,16,17])]}
end Go.VC.cG
namespace Go.VC
section
section
variable {a b:Int}{k:IntKind}{x y:List UInt8}{p q:Bool}{d e:D}
theorem im:Std.lt a b=decide (a<b):=rfl
theorem lL:Std.le a b=decide (a<=b):=rfl
theorem gq:Std.eq a b=(a==b):=rfl
theorem fy:Std.add a b=a+b:=rfl
theorem pA:Std.sub a b=a-b:=rfl
theorem Pa:Std.mul a b=a*b:=rfl
theorem fA:Std.not p= !p:=rfl
theorem Pg:Std.beq p q=(p==q):=rfl
theorem Pd{c:Bool}:Std.ite c p q=(bif c then p else q):=rfl
theorem Cm:Std.seq x y=(x==y):=rfl
theorem gu:Std.dr x=(x.length:Int):=rfl
def Pc:Std.max a b=if b>a then b else a:=rfl
def Pb:Std.min a b=if b<a then b else a:=rfl
theorem kC:Std.idx a b=(0<=a/\a<b):=rfl
theorem Pf:Std.gh a b=(0<=a/\a<=b):=rfl
theorem kB:Std.same a b=(a=b):=rfl
theorem fu:Std.inr .i64 a=(-9223372036854775808<=a/\a<=9223372036854775807):=rfl
theorem Pe{n:Int}:Std.asInt (.int n)=n:=rfl
theorem MP:Std.asBool (.bool p)=p:=rfl
theorem nF:Std.bH (.str x)=x:=rfl
end
variable {α:Type}{i:Nat}{l:List Int}{j a:Int}{b:List UInt8}
def bA{α:Type}(f:α->List D)(l:List α):D:=.list (l.map f)
theorem da{α:Type}{f:α->List D}{l:List α}:Std.len (bA f l)=(l.length:Int):=by simp[Std,dz,bA,cn]
def dN{f:α->List D}{l:List α}{j:Nat}(h:i<l.length):Std.cell (bA f l) (bk i) j=(f l[i]).getD j .nil:=by simp[Std,dz,bA,cn,cc,h]
theorem cB{α:Type}{f:α->List D}{l k:List α}:Std.app (bA f l) (bA f k)=bA f (l++k):=by simp[Std,dz,bA,cn]
def cY{f:α->List D}{l:List α}(h:i<l.length):Std.idx (bk i) (Std.len (bA f l)):=⟨dS _,by rw[da];exact lz.2 h⟩
def fm{n:Nat}(h:i<n)(c:n<4294967297):Std.inr .i64 (Std.add (bk i) 1):=by rw[fu,fy];simp only[bz];omega
def mW{p:α->Bool}{l:List α}(h:i<l.length)(ha:(l.take i).all p=true)(c:p l[i]=true):(l.take (i+1)).all p=true:=by rw[k8 h,rX,ha];simp[c]
def all_false{p:α->Bool}{l:List α}(h:i<l.length)(c:p l[i]=false):l.all p=false:=by rw[pE];exact⟨l[i],bu h,by simp[c]⟩
def oQ{f:α->List D}{l:List α}{a b:Nat}:Std.part (bA f l) (a:Int) (b:Int)=bA f ((l.drop a).take (b-a)):=by simp[Std,dz,bA,cn,E6,vB]
def qQ{f:α->List D}{l:List α}{off:Nat}{vs:List D}{y:α}(ha:a=i)(h:i<l.length)(g:(f l[i]).take off++vs++(f l[i]).drop (off+vs.length)=f y):Std.mY (bA f l) a off vs=bA f (l.set i y):=by
 subst ha;simp only[Std,dz,bA,cn,ej]
 congr 1
 apply List.ext_getElem (by simp);intro j h1 J;simp only[List.getElem_modify,zy,List.getElem_set];split
 ·rename_i c;subst c;exact g
 ·rfl
theorem EL{a b:Int}:Std.max a b=max a b:=by rw[Pc];split<;>omega
theorem ML{a b:Int}:Std.min a b=min a b:=by rw[Pb];split<;>omega
theorem vA{α:Type}{f:α->List D}{l:List α}{a b:Int}:Std.part (bA f l) a b=bA f ((l.drop a.toNat).take (b.toNat-a.toNat)):=by simp[Std,dz,bA,cn,E6,vB]
theorem EM{d e:D}:Std.len (Std.app d e)=Std.len d+Std.len e:=by simp[Std,dz,cn]
theorem lr{l:List (List D)}:Std.len (Std.lit l)=(l.length:Int):=by simp[Std,dz,cn]
def Q5{f:α->List D}{x:α}{l:List D}(h:l=f x):Std.lit [l]=bA f [x]:=by subst h;rfl
theorem Cn{d:D}{i:Int}{off:Nat}{vs:List D}:Std.len (Std.mY d i off vs)=Std.len d:=by simp[Std,dz,cn]
def slt(a b:List UInt8):Bool:=Op.bytesLess a b
theorem MI{a b:List UInt8}:Std.slt a b=slt a b:=rfl
def kq(l:List Int):D:=bA (λj=>[D.int j]) l
def wU:Std.nL (kq l) j=kq (l++[j]):=by simp[Std,dz,kq,bA,cn]
def uv:Std.last (kq (l++[j]))=j:=by simp[Std,dz,kq,bA,cn]
def s5{f:α->List D}{m:List α}(h:Std.qb (bA f m) (kq l) j):0<=j/\j<m.length/\j∉l:=by obtain⟨h1,J,h3⟩:=h;simp only[bA,kq,cn,bL]at J h3;refine⟨h1,J,λc=>h3 (bP.2 ⟨j,c,rfl⟩)⟩
def qS{f:α->List D}{m:List α}(h:Std.nE (bA f m) (kq l)):∀j:Nat,j<m.length->(j:Int)∈l:=by intro j c;have:=h j (by simp[bA,cn];exact c);simp only[kq,bA,cn,bP]at this;obtain⟨x,g,he⟩:=this;simp at he;subst he;exact g
def oL:Std.len (kq l)=(l.length:Int):=da
def oM:Std.asInt (Std.cell (kq l) a 0)=l.getD a.toNat 0:=by
 simp only[Std,dz,kq,bA,cn];rcases bV a.toNat l.length with h|h
 ·simp[fN,h]
 ·simp[fN,h]
def xp(a b:List UInt8):slt a b=decide (a<b):=Go.Proofs.bytesLess_eq a b
def iA(a:List UInt8):slt a a=false:=by rw[xp];simp
def oh{a c:List UInt8}(h:slt a b=true)(f:slt b c=true):slt a c=true:=by rw[xp]at *;simp at *;exact List.lt_trans h f
def o5{a:List UInt8}(h:slt a b=false)(c:slt b a=false):a=b:=by rw[xp]at *;simp at *;exact List.le_antisymm c h
def jA{α:Type}(p:α->Bool)(l:List α):Int:=match l.findIdx? p with|some i=>i|none=> -1
def fp{p:α->Bool}{l:List α}(h:i<l.length)(ha:∀x∈l.take i,p x=false)(c:p l[i]=true):jA p l=i:=by
 have:l.findIdx? p=some i:=by rw[kN];refine⟨h,c,λj f=>?_⟩;have:=ha l[j] (by rw[jU];exact⟨j,by omega,rfl⟩);simp[this]
 rw[jA,this]
def fq{p:α->Bool}{l:List α}(ha:∀x∈l,p x=false):jA p l= -1:=by
 have:l.findIdx? p=none:=by rw[oW];exact ha
 rw[jA,this]
def jH{p:α->Bool}{l:List α}:l.any p=decide (0<=jA p l):=by
 cases h:l.findIdx? p with
 |none=>
  have h1:=oW.1 h;have:l.any p=false:=by rw[PE];intro x c;rw[h1 x c];simp
  simp only[jA,h,this];rfl
 |some i=>
  obtain⟨h1,J,_⟩:=kN.1 h;have:l.any p=true:=by rw[eE];exact⟨_,bu h1,J⟩
  simp only[jA,h,this];simp
def kR(p:α->Bool)(l:List α):(jA p l= -1/\∀x∈l,p x=false)\/∃i,∃h:i<l.length,jA p l=(i:Int)/\p l[i]=true/\∀x∈l.take i,p x=false:=by
 cases h:l.findIdx? p with
 |none=>exact .inl ⟨by simp only[jA,h],oW.1 h⟩
 |some i=>obtain⟨h1,J,h3⟩:=kN.1 h;refine .inr ⟨i,h1,by simp only[jA,h],J,λx c=>?_⟩;rw[jU]at c;obtain⟨j,f,rfl⟩:=c;have:=h3 j (by omega);simpa using this
def cb{l:List α}(h:i<l.length):l.take (i+1)=l.take i++[l[i]]:=k8 h
theorem nbF:dL false=true:=rfl
theorem nbT:dL true=false:=rfl
def SD:=bq @nbF (bq @nbT (bq @da (bq @im (bq @lL (bq @gq (bq @fy (bq @pA (bq @Pa (bq @fA (bq @Pd (bq @nF (bq @MP (bq @Pe (bq @gu (bq @Cm (bq @MI (bq @Pg (bq @kC (bq @Pf (bq @kB (bq @EL (bq @ML (bq @vA (bq @cB (bq @EM (bq @lr (bq @Cn (bq @cJ.{0} (bq @jO.{0} (bq @bt.{0} (bq @bM.{0} (bq @bX.{0} (bq @ej (bq @fu (bq @bz (bq @Int.natCast_zero (bq @decide_eq_true_eq (bq @decide_eq_false_iff_not (bq @zz (bq @Bool.not_eq_false (bq @Bool.not_eq_eq_eq_not (bq @E9 (bq @tg (bq @beq_iff_eq.{0} (bq @beq_eq_false_iff_ne.{0} (bq @ne_eq.{1} (bq @Bool.true_eq_false (bq @cv (bq @cond_true.{1} (@cond_false.{1}))))))))))))))))))))))))))))))))))))))))))))))))))
abbrev FF:Prop:=False->False
section
variable {A:pM}
def fz(h:A=Std):∀b:Bool,A.not b= !b:=by rw[h];exactλ_=>rfl
def qH(h:A=Std):∀a b:Int,A.eq a b=(a==b):=by rw[h];exactλ_ _=>rfl
def I6(h:A=Std):∀a b:Int,A.lt a b=decide (a<b):=by rw[h];exactλ_ _=>rfl
def Nw(h:A=Std):∀a b:List UInt8,A.seq a b=(a==b):=by rw[h];exactλ_ _=>rfl
def ZT(h:A=Std):∀a b:List UInt8,A.slt a b=slt a b:=by rw[h];exactλ_ _=>rfl
def lenOf{α:Type}{f:α->List D}{l:List α}{d:D}(h:d=bA f l):∃n,n=l.length/\Std.len d=bk n:=⟨_,rfl,by rw[h,da];rfl⟩
end
end
section
variable [Inhabited pB]
open Go Go.Sort Go.Proofs
inductive pC {α β:Type} (R:α->β->Prop):List α->List β->Prop
 |nil:pC R [] []
 |cons {a b x y} (h:R a b) (t:pC R x y):pC R (a::x) (b::y)
def pC.length{α β:Type}{R:α->β->Prop}{x:List α}{y:List β}(h:pC R x y):x.length=y.length:=by
 induction h with
 |nil=>rfl
 |cons _ _ a=>simp[a]
def pC.get{α β:Type}{R:α->β->Prop}{x:List α}{y:List β}(h:pC R x y)(i:Nat)(h1:i<x.length)(h2:i<y.length):R x[i] y[i]:=by
 induction h generalizing i with
 |nil=>simp at h1
 |cons h t a=>
  cases i with
  |zero=>exact h
  |succ i=>exact a i (yU h1) (yU h2)
def pC.mG{α β:Type}{R:α->β->Prop}:∀{x:List α}{y:List β},x.length=y.length->(∀i (h1:i<x.length) (h2:i<y.length),R x[i] y[i])->pC R x y
 |[],[],_,_=>.nil
 |a::x,b::y,hl,h=>.cons (h 0 yS yS) (pC.mG (yU hl) λi h1 h2=>h (i+1) (yU h1) (yU h2))
 |[],_::_,hl,_=>yE hl
 |_::_,[],hl,_=>yE hl
def pC.perm{α β:Type}{R:α->β->Prop}{x i:List α}(j:i.Perm x):∀{y:List β},pC R x y->∃c,c.Perm y/\pC R i c:=by
 induction j with
 |nil=>intro y h;cases h;exact⟨[],.nil,.nil⟩
 |cons a _ o=>
  intro y h;cases h with
  |cons h t=>obtain⟨c,h1,h2⟩:=o t;exact⟨_::c,h1.cons _,.cons h h2⟩
 |swap a b l=>
  intro y h;cases h with
  |cons h t=>
   cases t with
   |cons n t=>exact⟨_::_::_,.swap _ _ _,.cons n (.cons h t)⟩
 |trans _ _ g d=>intro y h;obtain⟨q,h1,h2⟩:=d h;obtain⟨p,h3,h4⟩:=g h2;exact⟨p,h3.trans h1,h4⟩
structure zT (tt:TypeId->Option TI) (Pp:fE) (e:TypeId) (us:List Value) (row:List D):Prop where
 l1:us.length=(bR tt e).length
 l2:row.length=(bR tt e).length
 rd:∀(j:Nat) d ck,row[j]? =some d->(bR tt e)[j]? =some ck->∃v,us[j]? =some v/\RD tt Pp ck v d
section
variable {α:Type} [Inhabited α] {P:Program}{tt:TypeId->Option TI}{f:FuncId}{e:TypeId}
variable {w:World}{gv:Nat}{K:PV->List Ob->Prop}
def ON{g:FuncId}(b:gZ g kz=true:=by rfl):∀E Pp vs,eJ tt E Pp vs [.cy g []]->vs=[.func (.func g) #[] #[]]:=by
 intro E Pp vs h;cases h with
 |cons v _ vs _ h1 h2=>
 cases h2;cases h1 with
 |cy _ _ cs _ hu a=>
 obtain rfl:=hu.get b;cases a;rfl
def Ro:∀E Pp vs,eJ tt E Pp vs []->vs=[]:=by intro E Pp vs h;cases h;rfl
def AS(enc:α->Value)(d:Array α):flatK (λx=>[enc x]) 1 d=d.map enc:=by apply PG yS;intro i h1 h2;have a:i<d.size:=yU h2;simp only[flatK,Array.getElem_map,Array.getElem_range,Nat.div_one,Nat.mod_one];rw[getElem!_pos d i a];rfl
def holds_one{enc:α->Value}{off:Nat}{d:Array α}(h:HoldsK (λx=>[enc x]) 1 w gv off d):Holds enc w gv off d:=by intro j a;have:=h j (by rw[size_flatK];omega);rw[AS]at this;rw[getElem!_pos (d.map enc) j (yU a)]at this;rw[getElem!_pos d j a];simpa using this
def FK(enc:α->Value)(w:World)(gv off:Nat)(d:Array α):putRow enc w gv off d=putRow id w gv off (flatK (λx=>[enc x]) 1 d):=by
 rw[AS];unfold putRow
 congr 1
 funext c;unfold putCells
 congr 1
 funext k x;simp only[Cy,id];split
 ·rename_i h;rw[getElem!_pos d (k-off) yO,getElem!_pos (d.map enc) (k-off) yQ];simp
 ·rfl
def A1{t n k:Nat}(h:t<n*k):t/k<n/\t % k<k/\t=t/k*k+t % k:=by
 have hk:0<k:=by
  rcases wA k with a|a
  ·subst a;simp at h
  ·exact a
 exact⟨(s8 hk).2 h,ET _ hk,by rw[gI];exact(Cw t k).symm⟩
def Iz{E:List RI}{Pp:fE}{vals:List Value}(enc:α->List Value)(cf:α->α->Int)(am:List D->List D->Bool)(ex:List PV)(ev:List Value)(aQ:∀E Pp vs,eJ tt E Pp vs ex->vs=ev)
 (hk:∀x,(enc x).length=(bR tt e).length)
 (hS:∀(gv off cap:Nat)(d:Array α),HoldsK enc (bR tt e).length w gv off d->gv<w.heap.size->d.size<4611686018427387904->(∀ad v,Pp ad v->ad.block≠gv)->
   Calls P f ⟨.slice (some ⟨gv,off,none⟩) d.size cap::ev⟩ w λe' w'=>e'= .returned (.tuple #[])/\∃d' n os,PermIn 0 d.size d d'/\SortedIn (ltOf cf) 0 d.size d'/\w'=sortWorldK enc (bR tt e).length w gv off n d' os)
 (hN:∀(p:Option Addr)(cap:Nat)(w:World),Calls P f ⟨.slice p 0 cap::ev⟩ w λe' w'=>e'= .returned (.tuple #[])/\w'=w)
 (hE:∀args w,(callFunc f args).run P w= .ok (.enter f args) w)
 (rows:List (List D)) (hn:rows.length<4611686018427387904)
 (aE:∀us row,row∈rows->zT tt Pp e us row->∃x:α,enc x=us)
 (c8:∀x y rx ry,zT tt Pp e (enc x) rx->zT tt Pp e (enc y) ry->ltOf cf x y=am rx ry)
 (h:∀a,a.Perm rows->(∀i j (l:i<a.length) (O:j<a.length),i<j->am a[j] a[i]=false)->K (.tup []) [.row e (.list a) true])
 (hw:WR tt E Pp [.row e (.list rows) true] w) (hv:eJ tt E Pp vals (.row e 0::ex)):
 mc P f vals w (kE tt E Pp [.row e (.list rows) true] w K):=by
 cases hv with
 |cons v0 _ aD _ aO aG=>
 have aA:=aQ _ _ _ aG;subst aA;have aN:=hw.len;obtain⟨ri,A,Q⟩:=hw.ob 0 _ rfl rfl;refine .inl ⟨hE _ _,?_⟩;have g:∀p cap,v0= .slice p 0 cap->rows=[]->Calls P f ⟨v0::aD⟩ w (kE tt E Pp [.row e (.list rows) true] w K):=by rintro p cap rfl rfl;refine(hN p cap w).mono ?_;rintro e' w' ⟨rfl,rfl⟩;refine⟨_,E,Pp,[.row e (.list []) true],_,rfl,.refl _,λ_ _ h=>h,hw,.tup [] [] .nil,h [] (List.Perm.refl _) (λi j l=>yE l),Fr.refl _ _,λ_ _ h=>.inl h,?_⟩;intro i o ri b ho hl R hb;exact .inr ⟨i,o,ri,ho,hl,R,hb⟩
 cases aO with
 |row0 _ _ hr=>rw[A]at hr;cases hr;simp only[OR,D.list.injEq]at Q;exact g _ _ rfl Q
 |row _ _ N o len cap hr=>
  rw[A]at hr;cases hr;simp only[OR,D.list.injEq]at Q;obtain⟨vs,T,aL,c,aP,u,U,eO,dG,C,_⟩:=Q;subst aP;obtain⟨k,q⟩:∃k,k=(bR tt e).length:=⟨_,rfl⟩;rcases wA len with h0|aU
  ·subst h0;exact g _ _ rfl (bY u)
  have az:N<w.heap.size:=by
   rcases bV N w.heap.size with h'|h'
   ·exact h'
   ·rw[cC h']at c;simp at c
  have aC:o+len*k<=vs.length:=by have:=cW k U;rw[<- q]at eO;omega
  have ax:∀i (l:i<len),zT tt Pp e ((vs.drop (o+i*k)).take k) (rows[i]'yO):=by
   intro i l;obtain⟨h1,h2⟩:=dG i rows[i] (by simp[u,l]);have al:(i+1)*k<=len*k:=cW k l;rw[c9,pN]at al;refine⟨by rw[cJ,jO,<-q];omega,h1,?_⟩;intro j dd ck O B;obtain⟨v,hv,gV⟩:=h2 j dd ck O B;have F:j<k:=by rw[q];exact(dx.1 B).1
   refine⟨v,?_,gV⟩;rw[cK F,eM];rw[<- q]at hv;exact hv
  have hx:∀i (l:i<len),∃x:α,enc x=(vs.drop (o+i*k)).take k:=λi l=>aE _ _ (bu _) (ax i l);obtain⟨xs,aF,aw⟩:∃xs:List α,xs.length=len/\∀i (l:i<xs.length),enc xs[i]=(vs.drop (o+i*k)).take k:=by refine⟨(fb len).map λi=>if l:i<len then Classical.choose (hx i l)else default,yS,?_⟩;intro i l;have an:i<len:=yU l;simp only[zy,List.getElem_range,an,dif_pos];exact Classical.choose_spec (hx i an)
  have fh:xs.toArray.size=len:=by simp[aF]
  have hR:pC (λx r=>zT tt Pp e (enc x) r) xs rows:=pC.mG yO λi h1 h2=>by rw[aw i h1];exact ax i yO
  have flat:∀(d:Array α),d.size=len->∀t,t<len*k->∃(x:α) (hq:t/k<d.size),x=d[t/k]/\(flatK enc k d)[t]! =(enc x)[t % k]! :=by intro d hd t ht;obtain⟨h1,h2,h3⟩:=A1 ht;refine⟨_,yO,rfl,?_⟩;rw[get_flatK enc k d t (by rw[hd];exact ht),getElem!_pos d (t/k) yO]
  have hH:HoldsK enc k w N o xs.toArray:=by
   intro t ht;rw[size_flatK,fh]at ht;obtain⟨h1,h2,h3⟩:=A1 ht;obtain⟨x,hq,aj,Y⟩:=flat xs.toArray fh t ht;refine⟨?_,?_⟩
   ·simp only[World.cell?,c,nH,cv,if_false,id];rw[Y,aj];have ay:t/k<xs.length:=yO;have e1:=aw (t/k) ay;simp only[List.getElem_toArray];rw[e1];have a3:((vs.drop (o+t/k*k)).take k).length=k:=by rw[<- e1,hk,q]
    rw[getElem!_pos _ (t % k) yO];rw[List.getElem_take,List.getElem_drop];have J:o+t<vs.length:=yO;have:(⟨vs⟩:Array Value)[o+t]? =some vs[o+t]:=by simp[J]
    rw[this]
    congr 2
    omega
   ·simp only[World.frozen?,c];simp
  rw[<- q]at hS;have hC:=hS N o cap xs.toArray hH az (by rw[fh,<-u];exact hn) (λad v S=>C trivial ad v S);rw[fh]at hC;refine hC.mono ?_;rintro e' w' ⟨rfl,d',n,os,hp,hs,rfl⟩;have ap:d'.size=len:=by rw[hp.1,fh]
  have ab:d'.toList.Perm xs:=by have:=hp.2.2;rw[jn yO,jn yO]at this;simpa using this
  obtain⟨a,ar,af⟩:=pC.perm ab hR;have aI:a.length=len:=by rw[ar.length_eq,u]
  obtain⟨W,hW⟩:∃W,W=sortWorldK enc k w N o n d' os:=⟨_,rfl⟩;rw[<- hW]
  have V:∀b,b<w.heap.size->W.heap[b]? =(w.heap[b]?).map λx=>if b=N then onCells (putCells id o (flatK enc k d')) x else x:=by
   intro b hb;rw[hW];simp only[sortWorldK,putRowK,putRow,grow,mapBlock,Sort.ahead];rw[gM (by simp;exact hb),jm];by_cases I:N=b
   ·subst I;simp
   ·rw[if_neg I];cases w.heap[b]? with
    |none=>rfl
    |some x=>simp[dy I]
  obtain⟨s,G⟩:∃s,s=(putCells id o (flatK enc k d') ⟨vs⟩).toList:=⟨_,rfl⟩;have X:W.heap[N]? =some (.cells ⟨s⟩ e (0,0)):=by rw[V N az,c];simp[onCells,G]
  have aM:s.length=vs.length:=by rw[G];simp[putCells]
  have ae:∀t,t<len*k->s[o+t]? =some (flatK enc k d')[t]! :=by intro t ht;rw[G];simp only[putCells,Array.toList_mapIdx];rw[List.getElem?_mapIdx];have J:o+t<vs.length:=yO;simp only[bx J,cr];rw[size_flatK,ap,if_pos yO];simp
  have ag:w.heap.size<=W.heap.size:=by rw[hW];simp[sortWorldK,putRowK,putRow,grow,mapBlock,Sort.ahead]
  have z:∀b,b<w.heap.size->b≠N->W.heap[b]? =w.heap[b]? :=by
   intro b hb Z;rw[V b hb];cases w.heap[b]? with
   |none=>rfl
   |some x=>simp[Z]
  have ak:wi tt Pp e s o a:=by
   intro i row l;have aR:i<a.length:=(dx.1 l).1;have H:row=a[i]:=((dx.1 l).2).symm;have M:=af.get i yQ aR;rw[<- H]at M;refine⟨M.l2,?_⟩;intro j dd ck O B;obtain⟨v,hv,gV⟩:=M.rd j dd ck O B;refine⟨v,?_,gV⟩;have F:j<k:=by rw[q];exact(dx.1 B).1
   have al:(i+1)*k<=len*k:=cW k yO;rw[c9,pN]at al;rw[<- q,eY,ae (i*k+j) yO];obtain⟨x,hq,aj,Y⟩:=flat d' ap (i*k+j) yO;have aB:(i*k+j)/k=i:=by rw[gI,sq yO,qX F,iq]
   have aq:(i*k+j) % k=j:=by rw[gI,so,qW F]
   rw[Y,aq];have aJ:x=d'.toList[i]'yQ:=by rw[aj];simp[aB]
   rw[aJ];have ao:j<(enc (d'.toList[i]'yQ)).length:=by rw[hk,<-q];exact F
   rw[getElem!_pos _ j ao];rw[bx ao]at hv;exact hv
  have L:∀i j (l:i<a.length) (O:j<a.length),i<j->am a[j] a[i]=false:=by intro i j l O aH;have:=hs i j (bB _) aH yO;rw[getElem!_pos d' i yO,getElem!_pos d' j yO]at this;rw[<- c8 d'[j] d'[i] _ _ (by have:=af.get j yQ O;simpa using this) (by have:=af.get i yQ l;simpa using this)];exact this
  have C:=C trivial;refine⟨_,E,Pp,[.row e (.list a) true],_,rfl,.refl _,λ_ _ h=>h,?_,.tup [] [] .nil,h a ar L,?_,λ_ _ h=>.inl h,?_⟩
  ·refine⟨by rw[aN];rfl,?_,?_,?_,hw.gl⟩
   ·intro ad v S;have Z:=C ad v S;have hc:=hw.pi ad v S;rw[gF (z _ (xY hc) Z)];exact hc
   ·intro i ob ho hl;cases i with
    |succ i=>simp at ho
    |zero=>simp at ho;subst ho;refine⟨_,A,?_⟩;simp only[OR];refine⟨s,T,a,X,rfl,aI,U,by rw[aM];exact eO,ak,λ_=>C,yS⟩
   ·intro i j oi oj ri rj b l O _ _ _ _ _ _;cases i<;>cases j<;>simp at l O ⊢
  ·refine⟨?_,?_,?_,ag,?_,?_⟩
   ·rw[hW];rfl
   ·rw[hW];rfl
   ·rw[hW];rfl
   ·intro _;rw[hW];exact Nat.le_add_right _ _
   ·intro b hb av;refine z b hb λI=>av ?_;subst I;exact⟨0,_,_,rfl,rfl,A,rfl⟩
  ·intro i ob ri b ho hl R hb;refine .inr ?_;cases i with
   |succ i=>simp at ho
   |zero=>rw[A]at R;cases R;exact⟨0,_,_,rfl,rfl,A,hb⟩
def R5(tt:TypeId->Option TI)(gv:Nat)(w:World):Prop:=(∀b,vj tt=some b->b≠gv/\∃m:Int,w.cell? ⟨b,0,none⟩=some (.int .i64 m))/\
 ∀g,g∈vh tt->g.1≠gv/\pc w ⟨g.1,0,some 1⟩=some (.int .i64 g.2.2.length)/\∀i z,g.2.2[i]? =some z->w.cell? ⟨g.1,i,none⟩=some (.int g.2.1 z)
def R5.of{tt:TypeId->Option TI}{Pp:fE}(h:MV tt Pp)(a:∀ad v,Pp ad v->pc w ad=some v)(h4:∀ad v,Pp ad v->ad.block≠gv):R5 tt gv w:=⟨λb hb=>by obtain⟨m,d⟩:=h.1 b hb;exact⟨h4 _ _ d,m,by rw[<- pd];exact a _ _ d⟩,λg c=>⟨h4 _ _ (h.2 g c).1,a _ _ (h.2 g c).1,λi z hz=>by rw[<- pd];exact a _ _ ((h.2 g c).2 i z hz)⟩⟩
def Hj(enc:α->List Value)(cf:α->α->Int)(b:List D->List D->Bool)(g:List PV)(ev:List Value)(o:∀E Pp vs,eJ tt E Pp vs g->vs=ev)
 (hk:∀x,(enc x).length=(bR tt e).length)
 (u:∀(gv off cap:Nat)(d:Array α)(w:World),HoldsK enc (bR tt e).length w gv off d->gv<w.heap.size->d.size<4611686018427387904->(R5 tt gv w)->
   Calls P f ⟨.slice (some ⟨gv,off,none⟩) d.size cap::ev⟩ w λe' w'=>e'= .returned (.tuple #[])/\∃d' n os,PermIn 0 d.size d d'/\SortedIn (ltOf cf) 0 d.size d'/\w'=sortWorldK enc (bR tt e).length w gv off n d' os)
 (v:∀(p:Option Addr)(cap:Nat)(w:World),Calls P f ⟨.slice p 0 cap::ev⟩ w λe' w'=>e'= .returned (.tuple #[])/\w'=w)
 (s:∀args w,(callFunc f args).run P w= .ok (.enter f args) w)
 (rows:List (List D)) (z:rows.length<4611686018427387904)
 (l:∀Pp us row,row∈rows->zT tt Pp e us row->∃x:α,enc x=us)
 (c8:∀Pp x y r q,zT tt Pp e (enc x) r->zT tt Pp e (enc y) q->ltOf cf x y=b r q)
 (h:∀a,a.Perm rows->(∀i j (B:i<a.length) (A:j<a.length),i<j->b a[j] a[i]=false)->K (.tup []) [.row e (.list a) true]):
 FC P tt f [.row e (.list rows) true] (.row e 0::g) K:=λE Pp w vals c t=>
 Iz enc cf b g ev o hk (λgv off cap d h1 h2 h3 h4=>u gv off cap d w h1 h2 h3 (R5.of c.gl c.pi h4)) v s rows z (l Pp) (c8 Pp) h c t
end
variable {w:World}{gv k off m:Nat}{os:Array Obj}
def Gd(g:(default:pB).p){own:Nat->Prop}{w':World}(h:Fr own w w')(j:∀b,¬own b):∃q c,w'=Go.Sort.grow (w.drewN q) c:=by
 refine⟨w'.drawn-w.drawn,w'.heap.extract w.heap.size w'.heap.size,?_⟩;have d:=h.drawn g
 have l:w'.heap=w.heap++w'.heap.extract w.heap.size w'.heap.size:=by
  apply Nt;intro i;rcases bV i w.heap.size with a|a
  ·rw[gM a];exact h.block i a (j i)
  ·rw[Array.getElem?_append_right a];simp only[Array.getElem?_extract];have:=h.size;split
   ·congr 1;omega
   ·rw[cC yO]
 cases w' with
 |mk heap tape drawn os output=>
  simp only[Go.Sort.grow,World.drewN]
  congr 1
  ·exact h.tape
  ·simp at d ⊢;omega
  ·exact h.os
  ·exact h.output
def BM{α:Type}[Inhabited α]{enc:α->List Value}{b:Array α}{ad:Addr}{v:Value}(h:pc w ad=some v)(a:ad.block≠gv):pc (sortWorldK enc k w gv off m b os) ad=some v:=by rw[<- h];have hb:=xY h;refine gF ?_;simp only[sortWorldK,putRowK,putRow,grow,mapBlock,Sort.ahead];rw[gM (by simp;exact hb),jm,if_neg (dy a)]
def P9(tt:TypeId->Option TI)(w:World):fE:=λad v=>(vj tt=some ad.block\/∃g,g∈vh tt/\g.1=ad.block)/\pc w ad=some v
def LJ{tt:TypeId->Option TI}{α:Type}[Inhabited α]{enc:α->List Value}{b:Array α}(a:R5 tt gv w):
 ∀ad v,P9 tt w ad v->pc (sortWorldK enc k w gv off m b os) ad=some v:=λad v ⟨h2,h3⟩=>BM h3 (by
  rcases h2 with h2|⟨g,h2,e⟩
  ·exact(a.1 _ h2).1
  ·rw[<- e];exact(a.2 g h2).1)
def LK{tt:TypeId->Option TI}(a:R5 tt gv w):MV tt (P9 tt w):=⟨λb hb=>(a.1 b hb).2.imp λ_ c=>⟨.inl hb,gm c⟩,λg h=>⟨⟨.inr ⟨g,h,rfl⟩,(a.2 g h).2.1⟩,λi z hz=>⟨.inr ⟨g,h,rfl⟩,gm ((a.2 g h).2.2 i z hz)⟩⟩⟩
def Jp(o:(default:pB).p){P:Program}{tt:TypeId->Option TI}{f:FuncId}{fn:Func}{c:Code}{args:List PV}{r:Int}(hf:Has P f fn c){Pp:fE}(g:FC P tt f [] args λv _=>v= .int .i64 r){vals:List Value}(j:∀ad v,Pp ad v->pc w ad=some v)(n:MV tt Pp)(l:eJ tt [] Pp vals args):
 Calls P f ⟨vals⟩ w λe w'=>e= .returned (.int .i64 r)/\∃q i,w'=Go.Sort.grow (w.drewN q) i:=by
 rcases g [] Pp w vals (WR.nil j n) l with⟨_,h⟩|⟨v,w',h,_⟩
 ·refine h.mono ?_;rintro e w' ⟨v,E',Pp',objs',pv,rfl,_,_,_,d,rfl,a,_⟩;cases d;exact⟨rfl,Gd o a (λb h=>nr h)⟩
 ·rw[mn hf.f hf.b hf.name]at h;cases h
end
section
variable [Inhabited pB]
open Go Go.Proofs Go.Shelf Go.RowKit
section
variable {P:Program} (w:World)
def zH{e:TypeId}(hc:P.cellsOf e=1)(a o n:Nat)(c:o+n<=a):liesAt P P.depth e a o e n=true:=by have b:P.depth=(2*(P.types.size+Made.depth)+1)+1:=rfl;rw[b];simp only[liesAt,fU];left;rw[b];simp[rowAt,hc,c,sameLayout,Nat.mod_one]
def pU(m it ty e:TypeId)(t:P.underlying m=some (.pointer e))(hc:P.cellsOf e=1)(g o cells:Nat)(r:w.shape? g=some (e,cells))(l:List UInt8)(h0:l≠[])(v:o+l.length<=cells)(u:l.length<=9223372036854775807)
 (b:∀j x,l[j]? =some x->w.cell? ((⟨g,o,none⟩:Addr).add j)=some (.int .u8 x.toNat)):
 (Builtin.unsafeString_ #[m,it] ty #[.pointer (some ⟨g,o,none⟩),.int .i64 l.length]).run P w= .ok (.string ⟨l.toArray⟩) (w.freeze ⟨g,o,none⟩ l.length):=by
 have hl:l.length≠0:=yU h0;have q:=Lib.run_loadBytes (P:=P) w l ⟨g,o,none⟩ .empty b;have a:=zH (P:=P) hc (cells/P.cellsOf e) o l.length (by rw[hc];simpa using v);have k:¬(9223372036854775807:Int)<(l.length:Int):=yO
 have c:Builtin.unsafeString_ #[m,it] ty #[.pointer (some ⟨g,o,none⟩),.int .i64 l.length]=
  (do
    let n <-asInt (.int .i64 l.length)
    if n<0 then runtimePanic (.error "unsafe.String: len out of range")
    if n>IntKind.i64.max then unsupported (.unsafePointer "String: a length above the largest int")
    if n=0 then pure (.string .empty)
    else if <-variablesAt ⟨g,o,none⟩ (<- elemOf m) n.toNat then do
     let s <-loadBytes ⟨g,o,none⟩ .empty n.toNat
     freeze ⟨g,o,none⟩ n.toNat
     pure (.string s)
    else unsupported (.unsafePointer "String: not so many bytes at ptr")):=rfl
 rw[c];have i:IntKind.i64.max=9223372036854775807:=rfl;have h:¬(l.length:Int)<0:=yO;simp[asInt,asIntOf,i,k,h,hl,variablesAt,r,elemOf,run_underlying t,a,q]
end
section
variable {P:Program}{ρ:Ren}
structure Pk (g:Nat) (w w':World):Prop where
 os:w'.os=w.os
 tape:w'.tape=w.tape
 output:w'.output=w.output
 size:w.heap.size<=w'.heap.size
 drawn:w.drawn<=w'.drawn
 block:∀k,k≠g->w'.heap[k]? =w.heap[k]?
def Dz(w:World)(g o n:Nat):Pk g w (w.drew.freeze ⟨g,o,none⟩ n):=by
 have a:Pk g w w.drew:=⟨rfl,rfl,rfl,cg _,pQ _,λk hk=>rfl⟩;generalize w.drew=w' at a;unfold World.freeze;split
 ·exact a
 ·exact⟨a.os,a.tape,a.output,yU a.size,a.drawn,λk hk=>by simp only[jm];rw[if_neg (λe=>hk e.symm)];exact a.block k hk⟩
def GR(L:Lays.n169 P ρ)(X:Builder.Extra P ρ)(b g o cap:Nat)(p:Value)(cur:Array Value)(l:List UInt8)(w:World)(h0:l≠[])(i:cap≠0)(n:l.length<=9223372036854775807)
 (k:w.heap[b]? =some (.cells #[p,.slice (some ⟨g,o,none⟩) l.length cap] (ρ.t 72) (0,0))) (m:w.heap[g]? =some (.cells cur (ρ.t 5) (0,0))) (eO:o+l.length<=cur.size)
 (a:∀(j:Nat) x,l[j]? =some x->cur[o+j]? =some (.int .u8 x.toNat)):
 Calls P (ρ.f 169) #[.pointer (some ⟨b,0,none⟩)] w λe w'=>e= .returned (.string ⟨l.toArray⟩)/\Pk g w w':=by
 have c1:w.drew.cell? ⟨b,1,none⟩=some (.slice (some ⟨g,o,none⟩) l.length cap):=by have:w.drew.heap[b]? =some (.cells #[p,.slice (some ⟨g,o,none⟩) l.length cap] (ρ.t 72) (0,0)):=k;rw[Lib.cell_of_heap this];rfl
 have A:(Builtin.unsafeSliceData_ #[(ρ.t 37)] (ρ.t 127) #[.slice (some ⟨g,o,none⟩) l.length cap]).run P w.drew= .ok (.pointer (some ⟨g,o,none⟩)) w.drew:=Lib.run_unsafeSliceData_row _ _ _ _ _ _ i;have v:(Builtin.unsafeString_ #[(ρ.t 127),(ρ.t 3)] (ρ.t 9) #[.pointer (some ⟨g,o,none⟩),.int .i64 l.length]).run P w.drew= .ok (.string ⟨l.toArray⟩) (w.drew.freeze ⟨g,o,none⟩ l.length):=by refine pU w.drew (ρ.t 127) (ρ.t 3) (ρ.t 9) (ρ.t 5) L.t127 X.cellsByte g o cur.size (by have c:w.drew.heap[g]? =some (.cells cur (ρ.t 5) (0,0)):=m;simp[World.shape?,c]) l h0 eO n ?_;intro j x J;have h1:=a j x J;have c:w.drew.heap[g]? =some (.cells cur (ρ.t 5) (0,0)):=m;rw[Addr.add_lit];simp[World.cell?,c,h1]
 have h:=Dz w g o l.length;clear m eO a h0 k;have mixed:=L.mixed;have Q:=L.t72;have S:=L.a72;have z:=L.z72;have y:=L.v72;have E:=run_underlying L.t72;have N:=L.t70;have R:=L.a70;have I:=L.z70;have B:=L.v70;have C:=run_underlying L.t70;have G:=L.t37;have M:=L.a37;have O:=L.z37;have F:=L.v37;have H:=run_underlying L.t37;have u:=L.t127;have r:=L.a127;have q:=L.z127;have s:=L.v127;have t:=run_underlying L.t127;have U:=L.t3;have a3:=L.a3;have z3:=L.z3;have V:=L.v3;have u3:=run_underlying L.t3;have Z:=L.t9;have a9:=L.a9;have z9:=L.z9;have Y:=L.v9;have u9:=run_underlying L.t9;have t5:=X.t5;have a5:=X.a5;have W:=X.z5;have v5:=X.v5;have u5:=run_underlying X.t5
 go_enter L.f169,Body.n169_ntmps ρ
 go_wp2
 go_region_o
 all_goals (go_wp2;go_ret;exact⟨rfl,h⟩)
end
def dq(s:List UInt8):List (List D):=s.map λc=>[.int (c.toNat:Int)]
def Fq{tt:TypeId->Option TI}{Pp:fE}{e:TypeId}(a:bR tt e=[.int .u8]){vs:List Value}{o:Nat}{s:List UInt8}(h:wi tt Pp e vs o (dq s)):∀(j:Nat) c,s[j]? =some c->vs[o+j]? =some (.int .u8 c.toNat):=by intro j c hc;obtain⟨_,h2⟩:=h j [.int (c.toNat:Int)] (by simp[dq,hc]);rw[a]at h2;obtain⟨v,b,hr⟩:=h2 0 (.int (c.toNat:Int)) (.int .u8) rfl rfl;cases hr;simpa using b
section
variable {P:Program}{tt:TypeId->Option TI}{f:FuncId}{T e:TypeId}
variable {d:D}{p:PV}{K:PV->List Ob->Prop}
def JE(hu:∀t ti,tt t=some ti->ti.O0=true->t=T)(G:bR tt e=[.int .u8])
 (Z:∀args w,(callFunc f args).run P w= .ok (.enter f args) w)
 (hS:∀(b g o cap:Nat)(p:Value)(cur:Array Value)(l:List UInt8)(w:World),l≠[]->cap≠0->l.length<=9223372036854775807->
   w.heap[b]? =some (.cells #[p,.slice (some ⟨g,o,none⟩) l.length cap] T (0,0))->w.heap[g]? =some (.cells cur e (0,0))->o+l.length<=cur.size->
   (∀(j:Nat) x,l[j]? =some x->cur[o+j]? =some (.int .u8 x.toNat))->
   Calls P f #[.pointer (some ⟨b,0,none⟩)] w λe w'=>e= .returned (.string ⟨l.toArray⟩)/\Pk g w w')
 {s:List UInt8} (h0:s≠[]) (hl:s.length<=4294967296) (I:d= .list (dq s)) (hp:pa p=true) (h:K (.str s) [.dead,.dead]):
 FC P tt f [.box [p,.row e 1],.row e d true] [.box 0 0] K:=by
 subst I;intro E Pp w vals A hv;cases hv with
 |cons v _ af _ N J=>
 cases J;cases N with
 |box _ _ _ gv M m=>
 obtain rfl:=m.get rfl;obtain⟨X,F,C⟩:=A.ob 0 _ rfl rfl;rw[M]at F;cases F;obtain⟨V,T1,hb,O,Q,H⟩:=C;obtain⟨ti,h1,h2⟩:=H hp;obtain rfl:=hu _ _ h1 h2;cases O with
 |cons Y _ us _ ab m=>
 cases m with
 |cons u1 _ U _ m L=>
 cases L;obtain⟨ae,q,n⟩:=A.ob 1 _ rfl rfl;cases m with
 |row0 _ _ hr=>rw[hr]at q;cases q;simp only[OR,D.list.injEq]at n;exact absurd (by simpa[dq]using n) h0
 |row _ _ g o len cap hr=>
  rw[hr]at q;cases q;obtain⟨vs,_,rows,W,I,z,S,fh,dG,u,ai⟩:=n;cases I;have r:s.length=len:=by rw[<- z,dq,bL]
  subst r;have R:0<s.length:=gx.2 h0;rw[G]at fh;simp only[dJ,pP]at fh;have u:=u rfl;have y:own E [.box [p,.row e 1],.row e (.list (dq s)) true] g:=⟨1,_,_,rfl,rfl,hr,rfl⟩;refine .inl ⟨Z _ _,(hS gv g o cap Y ⟨vs⟩ s w h0 yO yO hb W (by show o+s.length<=vs.length;omega) (λj x hx=>by simpa using Fq G dG j x hx)).mono ?_⟩;rintro e' w' ⟨rfl,hO⟩;have gR:∀ad v,Pp ad v->pc w' ad=some v:=λad v B=>by rw[gF (hO.block _ (u ad v B))];exact A.pi ad v B
  have a:∀(i:Nat)(ob:Ob),([.dead,.dead]:List Ob)[i]? =some ob->ob.live=true->False:=λi ob c hl=>by
   match i,c with
   |0,c=>simp at c;subst c;cases hl
   |1,c=>simp at c;subst c;cases hl
   |i+2,c=>simp at c
  refine⟨_,E,Pp,[.dead,.dead],.str s,rfl,.refl _,λ_ _ h=>h,⟨by have:=A.len;simpa using this,gR,λi ob c hl=>(a i ob c hl).elim,λi j oi oj ri rj b c hj hl _ _ _ _ _=>(a i oi c hl).elim,A.gl⟩,?_,h,⟨hO.os,hO.tape,hO.output,hO.size,λ_=>hO.drawn,λk _ hk=>hO.block k (λe=>hk (e▸y))⟩,λ_ _ h=>.inl h,λi ob ri b c hl=>(a i ob c hl).elim⟩;exact .str ⟨s.toArray⟩
def Cq(hu:∀t ti,tt t=some ti->ti.O0=true->t=T)
 (S:∀args w,(callFunc f args).run P w= .ok (.enter f args) w)
 (u:∀(b:Nat)(w:World),w.cell? ⟨b,0,none⟩=some (.pointer (some ⟨b,0,none⟩))->Calls P f #[.pointer (some ⟨b,0,none⟩)] w λe w'=>e= .returned (.tuple #[])/\w'=w)
 (q:∀(b:Nat)(w:World),w.cell? ⟨b,0,none⟩=some (.pointer none)->w.shape? b=some (T,2)->w.frozen? ⟨b,0,none⟩=false->
   Calls P f #[.pointer (some ⟨b,0,none⟩)] w λe w'=>e= .returned (.tuple #[])/\w'=w.setCell ⟨b,0,none⟩ (.pointer (some ⟨b,0,none⟩)))
 (U:p= .nilp\/p= .box 0 0) (h:K (.tup []) [.box [.box 0 0,.row e 1],.row e d true]):
 FC P tt f [.box [p,.row e 1],.row e d true] [.box 0 0] K:=by
 intro E Pp w vals H I;cases I with
 |cons v _ ac _ M L=>
 cases L;cases M with
 |box _ _ _ gv a c=>
 obtain rfl:=c.get rfl;obtain⟨Z,C,A⟩:=H.ob 0 _ rfl rfl;rw[a]at C;cases C;obtain⟨X,R,hb,O,r,G⟩:=A;obtain⟨ti,h1,h2⟩:=G (by rcases U with rfl|rfl<;>rfl);obtain rfl:=hu _ _ h1 h2;cases O with
 |cons u0 _ us _ B c=>
 cases c with
 |cons u1 _ W _ c s=>
 cases s;have z:w.cell? ⟨gv,0,none⟩=some u0:=by simp[World.cell?,hb]
 rcases U with rfl|rfl
 ·cases B;refine .inl ⟨S _ _,(q gv w z (by simp[World.shape?,hb]) (by simp[World.frozen?,hb])).mono ?_⟩;rintro e' w' ⟨rfl,rfl⟩;have Q:(w.setCell ⟨gv,0,none⟩ (.pointer (some ⟨gv,0,none⟩))).heap[gv]? =some (.cells ⟨[.pointer (some ⟨gv,0,none⟩),u1]⟩ R (0,0)):=by simp[World.setCell,jm,hb]
  have g:∀k,k≠gv->(w.setCell ⟨gv,0,none⟩ (.pointer (some ⟨gv,0,none⟩))).heap[k]? =w.heap[k]? :=λk hk=>by simp only[World.setCell,jm];rw[if_neg (λe=>hk e.symm)]
  have y:own E [.box [.nilp,.row e 1],.row e d true] gv:=⟨0,_,_,rfl,rfl,a,rfl⟩
  have Y:WR tt E Pp [.box [.box 0 0,.row e 1],.row e d true] (w.setCell ⟨gv,0,none⟩ (.pointer (some ⟨gv,0,none⟩))):=by
   refine WR.wm H (i:=0) (o:=.box [.nilp,.row e 1]) (o':=.box [.box 0 0,.row e 1]) (ri:=.box gv) (ri':=.box gv) rfl rfl a rfl (λ_ _=>rfl) a rfl ?_ rfl ?_ ?_ (λ_ _ h=>h) (λ_ _ h=>.inl h) (λb hb=>.inl hb) ?_
   ·intro j N hj l hl
    match j,l with
    |1,l=>exact⟨N,l,hl,λ_ _ h=>h⟩
    |0,_=>exact absurd rfl hj
    |j+2,l=>simp at l
   ·intro _;exact⟨_,R,Q,.cons _ _ _ _ (.box _ _ _ _ a (.mk rfl)) (.cons _ _ _ _ c .nil),r,λ_=>⟨ti,h1,h2⟩⟩
   ·intro b _ J;exact g b (λe=>J (by rw[e];rfl))
   ·intro ad v I;rw[gF (g _ (r ad v I))];exact H.pi ad v I
  refine⟨_,E,Pp,_,.tup [],rfl,.refl _,λ_ _ h=>h,Y,.tup [] [] .nil,h,⟨rfl,rfl,rfl,by simp[World.setCell],λ_=>cg _,λk _ hk=>g k (λe=>hk (e▸y))⟩,λ_ _ h=>.inl h,?_⟩;intro i o ri b x hl n m
  match i,x with
  |0,x=>exact .inr ⟨0,_,ri,rfl,rfl,n,m⟩
  |1,x=>exact .inr ⟨1,_,ri,rfl,rfl,n,m⟩
  |i+2,x=>simp at x
 ·cases B with
  |box _ _ _ V F s=>
  obtain rfl:=s.get rfl;rw[a]at F;cases F;refine .inl ⟨S _ _,(u gv w z).mono ?_⟩;rintro e' w' ⟨rfl,rfl⟩;refine⟨_,E,Pp,[.box [.box 0 0,.row e 1],.row e d true],.tup [],rfl,.refl _,λ_ _ h=>h,H,.tup [] [] .nil,h,Fr.refl _ _,λ_ _ h=>.inl h,?_⟩;intro i o ri b x hl n m;exact .inr ⟨i,o,ri,x,hl,n,m⟩
end
end
end Go.VC
namespace Go
section
variable {P:Program}
def zA{fr:Frame}{cs:List Frame}{w w':World}{b:Builtin}{ts:Array TypeId}{ty:TypeId}{k:Array Bool}{args:Array Value}{v:Value}{ds:List Deferred}
 (f:fr.mode= .returning) (e:fr.defers={ target:=.builtin b ts ty k,args:=args }::ds) (hk:(invoke (.builtin b ts ty k) args).run P w= .ok (.value v) w'):
 step P (lone fr cs w)= .next (lone { fr with defers:=ds } cs w'):=by
 refine step_lone_go ?_;simp[stepG,unwind,callDeferred,f,e,Sem.runT_eq,hk,GStep.bare_after]
end
end Go
namespace Go.VC
section
variable [Inhabited pB]
open Go
structure Dl where
 ts:Array TypeId
 ty:TypeId
 r:Nat
 s:List UInt8
def HZ(q:Dl)(b:Value):Deferred:={ target:=.builtin .delete q.ts q.ty #[false,false],args:= #[b,.string ⟨q.s.toArray⟩] }
def nG(P:Program)(fn:Func)(tmps:Array Value)(R:Ending->World->Prop):List Deferred->World->Prop
 |[],w=>LeavesIn (kS none) 0 P fn tmps R [] .returning w
 |d::ds,w=>(∃r w',d=tc r/\(Instr.takeDeferred r).run P w= .ok [] w'/\nG P fn tmps R ds w')\/
  ∃b ts ty k args v w',d={ target:=.builtin b ts ty k,args:=args }/\(invoke (.builtin b ts ty k) args).run P w= .ok (.value v) w'/\nG P fn tmps R ds w'
section
variable {P:Program}{tt:TypeId->Option TI}{G:ea}{N:Nat}{B:jc}{E:List RI}{Pp:fE}{objs:List Ob}{w:World}{st:St}{a:Act}
variable {fn:Func}{R:Ending->World->Prop}
def se{tmps:Array Value}:∀(ds:List Deferred)(w:World)(fr:Frame)
 (cs:List Frame),fr.mode= .returning->fr.defers=ds->fr.tmps=tmps->P.funcs[fr.fn]? =some fn->fr.kind= .normal->nG P fn tmps R ds w->
 ∃e w' i,R e w'/\ComesIn (Machine.fenced P (kS none)) P (lone fr cs w) (lone i cs w') e/\i.fn=fr.fn/\i.leaving P w' e:=by
 intro ds;induction ds with
 |nil=>exactλw fr cs hu s t hf hk h=>leaves_stepsIn [] .returning w fr cs hu s t hf hk trivial (oo _) h
 |cons d ds D=>
  intro w fr cs hu s t hf hk h;rcases h with⟨r,w',rfl,m,f⟩|⟨b,ts,ty,k,args,v,w',rfl,hinv,f⟩
  ·have h1:=step_collected (cs:=cs) (by rw[hu];simp) s rfl m;have y:(lone fr cs w).fenced P (kS none):=fenced_out (n:=0) trivial (oo _) (by rw[hu];simp) s (λg H=>by simp[tc,Target.leads]at H);obtain⟨e',q,i,p,l,j,o⟩:=D w' { fr with defers:=[]++ds } cs hu rfl t hf hk f;exact⟨e',q,i,p,ComesIn.of_steps (.one y h1) l,j,o⟩
  ·have h1:=zA (cs:=cs) hu s hinv;have y:(lone fr cs w).fenced P (kS none):=fenced_out (n:=0) trivial (oo _) (by rw[hu];simp) s (λg H=>trivial);obtain⟨e',q,i,p,l,j,o⟩:=D w' { fr with defers:=ds } cs hu rfl t hf hk f;exact⟨e',q,i,p,ComesIn.of_steps (.one y h1) l,j,o⟩
def Ju(P:Program)(fn:Func)(R:Ending->World->Prop):Exit->Act->World->Prop
 | .normal,a,w| .ret,a,w=>nG P fn a.tmps R a.defers w
 |_,_,_=>False
def wy{f:FuncId}{c:Code}{args:Array Value}{w:World}
 (hf:P.funcs[f]? =some fn) (hb:fn.body=some c)
 (h:c.wpIn (kS none) 0 P (Ju P fn R) { tmps:=args++fj (fn.ntmps-args.size) undef,defers:=[] } w):CallsIn (kS none) 0 P f args w R:=by
 refine⟨trivial,λcs hr=>?_⟩;let b:Frame:={ (default:Frame)with fn:=f,kind:=.normal,roundOf:=none }
 have i:Frame.enter P f args .normal=
  b.atR { tmps:=args++fj (fn.ntmps-args.size) undef,defers:=[] } [.code c]:=by
  simp[Frame.enter,Frame.atR,hf,hb,b]
 obtain⟨e,q,w',p,g⟩:=h b [] cs rfl trivial hr;rw[<- i]at g;cases e with
 |normal=>obtain⟨e',o,m,s,hs,j,hl⟩:=se q.defers w' { b.atR q []with mode:=.returning } cs rfl rfl rfl hf rfl p;exact⟨e',o,m,s,ComesIn.of_steps (StepsIn.trans g (.one (fenced_calm (fr:=b.atR q []) trivial hr rfl) (stepR_end rfl))) hs,j,hl⟩
 |ret=>obtain⟨r,k⟩:=g.1 rfl;obtain⟨e',o,m,s,hs,j,hl⟩:=se q.defers w' { b.atR q r with mode:=.returning } cs rfl rfl rfl hf rfl p;exact⟨e',o,m,s,ComesIn.of_steps k hs,j,hl⟩
 |panic chain=>exact p.elim
 |exit id=>exact p.elim
 |goto l=>exact p.elim
 |outgrown=>exact p.elim
section
variable {P:Program}{F:Fence}{n:Nat}
variable {a:Act}{w:World}{Q:Exit->Act->World->Prop}
def Io{o:Oper}{K j:Act->World->Prop}{Q':Exit->Act->World->Prop}(hK:∀a w,K a w->j a w)(i:∀e a w,e≠ .normal->¬Q e a w)(h:o.wpIn F n P a w K Q):o.wpIn F n P a w j Q':=by
 have b:¬LetsOut Q:=λ⟨a,w,h⟩=>i _ a w yS h;refine⟨h.1,?_⟩;have h:=h.2;generalize (o.semAt F.round a.eval).run P w=r at h ⊢;cases r with
 |ok x w'=>
  cases x with
  |value v=>exact hK _ _ h
  |skip=>exact hK _ _ h
  |defer d=>exact hK _ _ h
  |enter f args=>
   refine⟨h.1,h.2.mono ?_⟩;intro e g he;cases e with
   |returned v=>exact hK _ _ he
   |panicked c=>exact absurd he (i _ _ _ yS)
   |outgrown=>exact absurd he b
  |row row args=>exact⟨h.1,h.2.mono λv g he=>hK _ _ he⟩
  |round l f tmps assign body=>
   refine⟨h.1,h.2.mono ?_⟩;intro e g he;cases e with
   |returned v=>exact hK _ _ he
   |panicked c=>exact absurd he (i _ _ _ yS)
   |outgrown=>exact absurd he b
  |_=>exact h.elim
 |halt s w'=>
  cases s with
  |panic v=>exact absurd h (i _ _ _ yS)
  |_=>exact h.elim
def wpAny_done{e:Region.Mode}{ops:Array Oper}{listed:Array Bool}(hr:Region.ready e ops listed=[])(h:Q .normal a w):∀k,wpAnyIn F n P e ops Q k listed a w
 |0=>⟨hr,h⟩
 |k+1=>⟨λ_=>h,λi b=>by rw[hr]at b;cases b⟩
structure kD (ops pre:Array Oper) (d:Oper):Prop where
 eq:ops=pre.push d
 back:∀(i:Nat) o,ops[i]? =some o->(∀e∈o.after,Region.binds .any e=true->e.on<i)/\∀j want,o.guard=some (j,want)->j<i
 succ:∀k,k<pre.size->∃j o,k<j/\ops[j]? =some o/\∃e∈o.after,Region.binds .any e=true/\e.on=k
variable {ops pre:Array Oper}{d:Oper}
variable {listed:Array Bool}
def kD.get(h:kD ops pre d){i:Nat}(b:i<pre.size):ops[i]? =pre[i]? :=by rw[h.eq,JZ,if_neg yO]
def kD.last(h:kD ops pre d):ops[pre.size]? =some d:=by rw[h.eq];simp
def kD.size(h:kD ops pre d):ops.size=pre.size+1:=by rw[h.eq];simp
def Pz(ops:Array Oper)(listed:Array Bool):Prop:=∀j o,ops[j]? =some o->listed.getD j false=true->∀e∈o.after,Region.binds .any e=true->listed.getD e.on false=true
def kD.all(h:kD ops pre d)(hc:Pz ops listed)(i:∀e∈d.after,Region.binds .any e=true->listed.getD e.on false=true):∀k,k<pre.size->listed.getD k false=true:=by
 have key:∀m k,pre.size-k<=m->k<pre.size->listed.getD k false=true:=by
  intro m;induction m with
  |zero=>intro k h1 h2;omega
  |succ m l=>
   intro k h1 h2;obtain⟨j,o,q,b,e,he,hb,f⟩:=h.succ k h2;have p:j<ops.size:=(dE.1 b).1;rw[h.size]at p;rw[<- f];by_cases g:j=pre.size
   ·subst g;rw[h.last]at b;cases b;exact i e he hb
   ·exact hc j o b (l j yO yO) e he hb
 exactλk hk=>key _ k (cg _) hk
def kD.j9(h:kD ops pre d){o:Oper}{i:Nat}(f:i<pre.size)(e:ops[i]? =some o)(tmps:Array Value):Region.wanted o (yielded ops tmps)=Region.wanted o (yielded pre tmps):=by
 unfold Region.wanted;cases b:o.guard with
 |none=>rfl
 |some g=>obtain⟨j,want⟩:=g;have:=(h.back i o e).2 j want b;simp only[yielded,h.get (show j<pre.size by omega)]
def oG{m j:Nat}{x:Bool}(hs:listed.size=m+1)(b:j<m):listed.pop.getD j x=listed.getD j x:=by have h1:j<listed.size:=yO;rw[bO,bO,vE,hs,if_pos yO]
def any_push(h:kD ops pre d){Q Q1:Exit->Act->World->Prop}(U:∀e a w,e≠ .normal->¬Q1 e a w)(hQ:∀a w,Q1 .normal a w->wpOpIn F n P ops Q pre.size (λa w=>Q .normal a w) a w):
 ∀k listed a w,listed.size=pre.size+1->listed.getD pre.size true=false->Pz ops listed->wpAnyIn F n P .any pre Q1 k listed.pop a w->wpAnyIn F n P .any ops Q (k+1) listed a w:=by
 intro k;have I:∀(listed:Array Bool),listed.size=pre.size+1->Pz ops listed->(∀k,k<pre.size->listed.getD k false=true)->Region.ready .any pre listed.pop=[]:=by intro listed hs hc r;apply gf.2;intro j y;obtain⟨h1,o,b,_⟩:=mem_ready.1 y;have D:j<pre.size:=(dE.1 b).1;rw[oG hs D]at h1;have:=r j D;rw[bO]at h1 this;rw[du yO]at h1 this;simp at h1 this;rw[this]at h1;cases h1
 have s:∀(listed:Array Bool),listed.size=pre.size+1->∀i,i<pre.size->(i∈Region.ready .any ops listed↔i∈Region.ready .any pre listed.pop):=by
  intro listed hs i g;rw[mem_ready,mem_ready,h.get g,oG hs g];constructor
  ·rintro⟨h1,o,b,h2⟩;refine⟨h1,o,b,λe he hb=>?_⟩;have:=(h.back i o (by rw[h.get g];exact b)).1 e he hb;rw[oG hs yO];exact h2 e he hb
  ·rintro⟨h1,o,b,h2⟩;refine⟨h1,o,b,λe he hb=>?_⟩;have:=(h.back i o (by rw[h.get g];exact b)).1 e he hb;have h3:=h2 e he hb
   rwa [oG hs yO]at h3
 have H:∀(listed:Array Bool),listed.size=pre.size+1->Region.ready .any pre listed.pop=[]->∀k,k<pre.size->listed.getD k false=true:=by
  intro listed hs hr k;induction k using Cu with
  |_ k X=>
   intro hk;rcases Bool.eq_false_or_eq_true (listed.getD k false)with h1|h1
   ·exact h1
   exfalso;have Z:listed.pop.getD k true=false:=by rw[oG hs hk];rw[bO,du yO]at h1 ⊢;simpa using h1
   have M:k∈Region.ready .any pre listed.pop:=by refine mem_ready.2 ⟨Z,pre[k],du hk,λe he hb=>?_⟩;have c8:=(h.back k pre[k] (by rw[h.get hk];exact du hk)).1 e he hb;rw[oG hs yO];exact X e.on c8 yO
   rw[hr]at M;cases M
 have m:∀(listed:Array Bool),listed.size=pre.size+1->listed.getD pre.size true=false->Region.ready .any pre listed.pop=[]->pre.size∈Region.ready .any ops listed:=by intro listed hs hu hr;refine mem_ready.2 ⟨hu,d,h.last,λe he hb=>?_⟩;exact H listed hs hr _ ((h.back _ _ h.last).1 e he hb)
 have J:∀(k:Nat)(listed:Array Bool)(a:Act)(w:World),listed.size=pre.size+1->Pz ops listed->pre.size∈Region.ready .any ops listed->Q1 .normal a w->wpOpIn F n P ops Q pre.size (wpAnyIn F n P .any ops Q k (listed.setIfInBounds pre.size true)) a w:=by
  intro k listed a w hs hc hm T;refine wpOpIn_mono (λa' w' h'=>wpAny_done ?_ h' k) (hQ a w T);apply gf.2;intro j y;obtain⟨h1,o,b,_⟩:=mem_ready.1 y;have D:j<pre.size+1:=by rw[<- h.size];exact(dE.1 b).1
  obtain⟨_,o2,f,l⟩:=mem_ready.1 hm;rw[h.last]at f;cases f;by_cases O:j=pre.size
  ·subst O;rw[bO,cN yO]at h1;cases h1
  ·have:=h.all hc l j yO;rw[bO,cE (dy O)]at h1;rw[bO]at this;rw[du yO]at h1 this;simp at h1 this;rw[this]at h1;cases h1
 have c8:∀(listed:Array Bool) i,i∈Region.ready .any ops listed->i≠pre.size->i<pre.size:=by intro listed i g Y;obtain⟨_,o,b,_⟩:=mem_ready.1 g;have:=(dE.1 b).1;rw[h.size]at this;omega
 induction k with
 |zero=>
  intro listed a w hs hu hc ⟨hr,T⟩;refine⟨λh0=>?_,λi g=>?_⟩
  ·have:=m listed hs hu hr;rw[h0]at this;cases this
  ·by_cases p:i=pre.size
   ·subst p;exact J 0 listed a w hs hc g T
   ·have:=(s listed hs i (c8 listed i g p)).1 g;rw[hr]at this;cases this
 |succ k X=>
  intro listed a w hs hu hc ⟨V,r⟩;refine⟨λh0=>?_,λi g=>?_⟩
  ·have hr:Region.ready .any pre listed.pop=[]:=by apply gf.2;intro j y;obtain⟨_,o,b,_⟩:=mem_ready.1 y;have:=(s listed hs j (dE.1 b).1).2 y;rw[h0]at this;cases this
   have:=m listed hs hu hr;rw[h0]at this;cases this
  ·by_cases p:i=pre.size
   ·subst p;obtain⟨_,o2,f,l⟩:=mem_ready.1 g;rw[h.last]at f;cases f;exact J _ listed a w hs hc g (V (I listed hs hc (h.all hc l)))
   ·have q:=c8 listed i g p;have h1:=r i ((s listed hs i q).1 g)
    have S:(listed.setIfInBounds i true).pop=listed.pop.setIfInBounds i true:=by
     apply Nt;intro j;rw[vE,jf,jf,vE];simp only[Array.size_setIfInBounds,Array.size_pop,hs];by_cases K:i=j
     ·subst K;have:i<listed.size:=yO;have:i<listed.size-1:=yO;simp_all
     ·simp[K]
    have v:∀a w,wpAnyIn F n P .any pre Q1 k (listed.pop.setIfInBounds i true) a w->wpAnyIn F n P .any ops Q (k+1) (listed.setIfInBounds i true) a w:=by
     intro a w h2;refine X _ a w (yU hs) ?_ ?_ (by rw[S];exact h2)
     ·rw[bO,cE yO,<-bO];exact hu
     ·intro j o b y e he hb;by_cases L:j=i
      ·subst L;obtain⟨_,o2,f,h3⟩:=mem_ready.1 g;rw[b]at f;cases f;have:=h3 e he hb;by_cases t:e.on=j
       ·rw[t,bO,cN yO];rfl
       ·rw[bO,cE (dy t),<-bO];exact this
      ·rw[bO,cE (dy L),<-bO]at y;have:=hc j o b y e he hb;by_cases t:e.on=i
       ·rw[t,bO,cN yO];rfl
       ·rw[bO,cE (dy t),<-bO];exact this
    unfold wpOpIn at h1 ⊢;have b:ops[i]? =some pre[i]:=by rw[h.get q];exact du q
    rw[du q]at h1;rw[b];simp only at h1 ⊢;rw[h.j9 q b];split at h1
    ·rename_i W;rw[if_pos W];exact Io v U h1
    ·rename_i W;rw[if_neg W];exact⟨h1.1,v _ _ h1.2⟩
end
def vu:Nat->List Oper->Bool
 |_,[]=>true
 |i,o::l=>gE (λe=>bif Region.binds .any e then gZ e.on i else true) o.after.toList&&(match o.guard with|none=>true|some (j,_)=>gZ j i)&&vu (i+1) l
def uH:Nat->List Oper->Bool
 |_,[]=>true
 |_,[_]=>true
 |i,_::y::l=>nX (λoj=>nX (λe=>Region.binds .any e&&nb e.on i) oj.after.toList) (y::l)&&uH (i+1) (y::l)
def uK:List Oper->Option (List Oper×Oper)
 |[]=>none
 |[x]=>some ([],x)
 |x::y::l=>match uK (y::l)with|some (p,d)=>some (x::p,d)|none=>none
def uJ:∀{l p:List Oper}{d:Oper},uK l=some (p,d)->l=p++[d]
 |[],_,_,h=>yC h
 |[x],_,_,h=>by simp[uK]at h;obtain⟨rfl,rfl⟩:=h;rfl
 |x::y::l,p,d,h=>by
  rw[uK]at h;split at h
  ·rename_i p' d' e;simp at h;obtain⟨rfl,rfl⟩:=h;rw[uJ e];rfl
  ·cases h
def zk:∀{l:List Oper}{i:Nat},vu i l=true->∀k o,l[k]? =some o->(∀e∈o.after,Region.binds .any e=true->e.on<i+k)/\∀j want,o.guard=some (j,want)->j<i+k
 |[],_,_,k,o,b=>yE b
 |x::l,i,h,k,o,b=>by
  simp only[vu,bw]at h;obtain⟨⟨h1,h2⟩,h3⟩:=h;cases k with
  |zero=>
   simp at b;subst b;refine⟨λe he hb=>?_,λj want f=>?_⟩
   ·rw[ur]at h1;have:=eF.1 h1 e (yU he);rw[hb]at this;exact dK this
   ·rw[f]at h2;exact dK h2
  |succ k=>have:=zk h3 k o (yU b);rw[show i+1+k=i+(k+1)by omega]at this;exact this
def xl:∀{l:List Oper}{i:Nat},uH i l=true->∀k,k+1<l.length->∃j o,k<j/\l[j]? =some o/\∃e∈o.after,Region.binds .any e=true/\e.on=i+k
 |[],_,_,k,hk=>yE hk
 |[_],_,_,k,hk=>yE hk
 |x::y::l,i,h,k,hk=>by
  simp only[uH,bw]at h;cases k with
  |zero=>have h0:=h.1;rw[py]at h0;obtain⟨o,f,h1⟩:=eE.1 h0;rw[py]at h1;obtain⟨e,he,h2⟩:=eE.1 h1;rw[bw]at h2;obtain⟨j,b⟩:=fF f;exact⟨j+1,o,yO,yU b,e,yU he,h2.1,cR h2.2⟩
  |succ k=>obtain⟨j,o,h1,h2,e,he,h3,h4⟩:=xl h.2 k (yU hk);exact⟨j+1,o,yO,yU h2,e,he,h3,yO⟩
def kD.of{ops:Array Oper}{p:List Oper}{d:Oper}(hs:uK ops.toList=some (p,d))(hb:vu 0 ops.toList=true)(hc:uH 0 ops.toList=true):kD ops ⟨p⟩ d:=by
 have he:=uJ hs;refine⟨?_,λi o b=>?_,λk hk=>?_⟩
 ·apply fL;simpa using he
 ·have:=zk hb i o (yU b);simpa using this
 ·obtain⟨j,o,h1,h2,e,h3,h4,h5⟩:=xl hc k (by rw[he];simpa using hk);exact⟨j,o,h1,yU h2,e,h3,h4,yU h5⟩
def Eb:Code->Bool
 | .region _ ops _=>nX (λo=>match o.op with| .defer _=>true|_=>false) ops.toList
 | .seq x y=>match Eb x with|true=>true|false=>Eb y
 | .cond _ x y=>match Eb x with|true=>true|false=>Eb y
 | .block _ c=>Eb c
 |_=>false
section
variable (A:pM) (G:ea) (C:iZ)
def Dj(all:List Oper):List Oper->St->(Option Dl->St->Prop)->Prop
 |[],st,Q=>Q none st
 |o::os,st,Q=>match o.op with
  | .defer c=>(match o.guard,o.dst,c.callee,c.args.toList with
   |none,none,.builtin .delete,[.tmp m,.tmp k]=>(match look st.s m,look st.s k with
    | .mp r,.str s=>bif gZ r G.n0 then xA A G C all os st (Q (some ⟨c.argTypes,o.type,r,s⟩))else False
    |_,_=>False)
   |_,_,_,_=>False)
  |_=>guarded G all o st (λst K=>dY A G C o st K) λb=>Dj all os b Q
variable (LP:Code->St->(Ex->St->Prop)->Prop)
def CB:Code->St->(Option Dl->Ex->St->Prop)->Prop
 | .region id ops d,st,Q=>(match Eb (.region id ops d),d with
  |true,false=>Dj A G C ops.toList ops.toList st λo s=>Q o .normal s
  |true,true=>(match uK ops.toList with
   |some (p,o)=>bif vu 0 ops.toList&&uH 0 ops.toList then zE A G C id ⟨p⟩ true st (λs=>Dj A G C ops.toList [o] s λx s=>Q x .normal s)else False
   |none=>False)
  |false,_=>mC A G C LP (.region id ops d) st (Q none))
 | .seq x y,st,Q=>match Eb x with
  |false=>mC A G C LP x st λe s=>match e with| .normal=>CB y s Q| .exit i=>Q none (.exit i) s| .ret=>Q none .ret s
  |true=>CB x st λo e s=>match e with| .normal=>mC A G C LP y s (Q o)| .exit i=>Q o (.exit i) s| .ret=>Q o .ret s
 | .cond c x y,st,Q=>match ev st.s c with
  | .bl true=>CB x st Q
  | .bl false=>CB y st Q
  | .bool t=>(t=true->CB x (zC c true st) Q)/\(t=false->CB y (zC c false st) Q)
  |_=>False
 | .block id c,st,Q=>CB c st λo e s=>match e with| .exit j=>(match nb j id with|true=>Q o .normal s|false=>Q o (.exit j) s)| .normal=>Q o .normal s| .ret=>Q o .ret s
 |c,st,Q=>mC A G C LP c st (Q none)
end
def Pn(tt:TypeId->Option TI)(E0:List RI)(Pp:fE)(w:World)(d:List Deferred)(E':List RI)(objs':List Ob)(d':List Deferred)(w':World):Option Dl->Prop
 |none=>Mk w d E' objs' d' w'
 |some q=>∃(e b:List Nat) (f:Value),d'=b.map tc++HZ q f::(e.map tc++d)/\Mk w d E' objs' (b.map tc++(e.map tc++d)) w'/\VR tt E0 Pp f (.mp q.r)
def ZL(P:Program)(tt:TypeId->Option TI)(N n0:Nat)(c:Code)(st:St)(Q:Option Dl->Ex->St->Prop):Prop:=∀B E Pp a w,B.E0.length=n0->fS tt N B E Pp st a w->c.wpIn (kS none) 0 P (λe f w'=>∃g b E' Pp' x,pn e g/\fS tt N (B.at f.defers) E' Pp' b f w'/\Pn tt B.E0 Pp' w a.defers E' b.o f.defers w' x/\w.heap.size<=w'.heap.size/\Q x g b) a w
section
variable {P:Program}{G:ea}{B:jc}{E:List RI}{Pp:fE}{w:World}{st:St}{a:Act}
def VR.Oi{tt:TypeId->Option TI}{E0 E:List RI}{Pp:fE}{v:Value}{r:Nat}(h:oR E0 E)(hr:r<E0.length)(f:VR tt E Pp v (.mp r)):VR tt E0 Pp v (.mp r):=by
 cases f with
 |mp _ b bs cl e=>
  have h0:E0[r]? =some E0[r]:=bx hr;rcases h r _ h0 with h1|⟨b',n,c,n',g,h1,h2⟩
  ·rw[e]at h1;exact .mp _ _ _ _ (by rw[h0,<-iH h1])
  ·rw[e]at h2;cases h2;exact .mp _ _ _ _ (by rw[h0,h1])
abbrev DfQ(tt:TypeId->Option TI)(N:Nat)(B:jc)(Q:Option Dl->St->Prop):Exit->Act->World->Prop:=λe f w'=>∃x b E' Pp',e= .normal/\fS tt N (B.at f.defers) E' Pp' b f w'/\(match x with|none=>f.defers=B.d0|some q=>∃g,f.defers=HZ q g::B.d0/\VR tt B.E0 Pp' g (.mp q.r))/\Q x b
def Ho(I:ec P G.tt)(hB:B.E0.length=G.n0){all:Array Oper}{Q:Option Dl->St->Prop}:
 ∀(l:List Oper)(k:Nat),all.toList.drop k=l->∀(st:St)(E:List RI)(Pp:fE)(a:Act)(w:World),fS G.tt G.n B E Pp st a w->Dj dz G (jT P G.tt) all.toList l st Q->
  wpOpsIn (kS none) 0 P all (DfQ G.tt G.n B Q) (List.range' k l.length) a w:=by
 intro l;induction l with
 |nil=>intro k _ st E Pp a w h hr;exact⟨none,st,E,Pp,rfl,h.at,h.defers,hr⟩
 |cons o os X=>
  intro k hk st E Pp a w h hr
  have c8:k<all.toList.length:=by
   rcases bV k all.toList.length with S|S
   ·exact S
   ·rw[fo S]at hk;simp at hk
  have ek:all[k]? =some o:=by rw[bF c8]at hk;simp only[gN]at hk;rw[<- hk.1];simp
  have g:all.toList.drop (k+1)=os:=by rw[bF c8]at hk;simp only[gN]at hk;exact hk.2
  simp only[bM,List.range'_succ,wpOpsIn_cons];unfold Dj at hr;split at hr
  ·rename_i c M;split at hr
   ·rename_i m T K L D p;split at hr
    ·rename_i r s hm hs;cases J:gZ r G.n0 with
     |false=>rw[J]at hr;exact hr.elim
     |true=>
      rw[J]at hr;have J:=dK J;have h1:=h.fk m;have h2:=h.fk T;rw[hm]at h1;rw[hs]at h2;generalize W:a.tmps.getD m undef=j at h1;generalize U:a.tmps.getD T undef=vk at h2;cases h2 with
      |str b=>
      have O:=VR.Oi h.pre yO h1
      have H:(execOp a.eval o).run P w= .ok (.defer (HZ ⟨c.argTypes,o.type,r,b.data.toList⟩ j)) w:=by
       have ha:c.args= #[.tmp m,.tmp T]:=by apply fL;simpa using p
       simp[execOp,M,resolve,D,ha,HZ,Act.eval,W,U]
      unfold wpOpIn;simp only[ek];rw[if_pos (by simp[Region.wanted,K])];refine⟨λf _=>trivial,?_⟩;rw[show (kS none).round=none from rfl,Oper.semAt_none,H,Oper.uponIn_defer,L];have V:fS G.tt G.n (B.at (HZ ⟨c.argTypes,o.type,r,b.data.toList⟩ j::B.d0)) E Pp st { a with defers:=HZ ⟨c.argTypes,o.type,r,b.data.toList⟩ j::a.defers } w:=⟨h.wr,h.fk,h.size,by show _::a.defers=_::B.d0;rw[h.defers],h.pre,h.rv,h.fr,h.jo,h.fresh⟩
      have:=An (r:=none) (B:=B.at (HZ ⟨c.argTypes,o.type,r,b.data.toList⟩ j::B.d0)) I hB (all:=all) (Q:=Q (some ⟨c.argTypes,o.type,r,b.data.toList⟩)) (Q':=λe y w'=>∃x t E' Pp',e= .normal/\fS G.tt G.n (B.at y.defers) E' Pp' t y w'/\(match x with|none=>y.defers=B.d0|some q=>∃j,y.defers=HZ q j::B.d0/\VR G.tt B.E0 Pp' j (.mp q.r))/\Q x t)
       (λE Pp st a w hs Y=>⟨some _,st,E,Pp,rfl,hs.at,⟨j,hs.defers,(VR.fQ (oR.refl _) (λ_ _ h=>h)).1 (by cases O with|mp _ b bs cl Z=>exact .mp _ _ _ _ Z)⟩,Y⟩) os (k+1) g st E Pp _ w V hr
      exact this
    ·exact hr.elim
   ·exact hr.elim
  ·refine sQ hB ek ?_ ?_ h hr
   ·intro st h _ hc _;refine Oper.wpIn_mono ?_ (tw I hB h.EX h.fk hc);rintro y w' ⟨t,E',Pp',v,pv,rfl,hv,hs,hw,hK,_,_⟩;obtain⟨i,h1,h2,_⟩:=rk h.size h.defers hv hs hw hK;exact X (k+1) g i E' Pp' _ w' h1 h2
   ·intro i h1 h2 _ _;exact X (k+1) g i E Pp _ w h1 h2
end
variable {tt:TypeId->Option TI}{N:Nat}{c:Code}{E2:List RI}{JC:fE}{z:St}{a2:Act}{w0 u:World}{d0:List Deferred}{x:Option Dl}{LP:Code->St->(Ex->St->Prop)->Prop}{fn:Func}
def ZL.K1{n0:Nat}{Q:Option Dl->Ex->St->Prop}(h:qU P tt N n0 none c st (Q none)):ZL P tt N n0 c st Q:=by intro B E Pp a w hb hs;refine wpIn_mono (h B E Pp a w hb hs) ?_;rintro e k w' ⟨i,g,E',Pp',he,f,b,fh,j⟩;exact⟨i,g,E',Pp',none,he,f,b,fh,j⟩
def VR.Q2{E:List RI}{Pp Pp':fE}{v:Value}{r:Nat}(e:VR tt E Pp v (.mp r)):VR tt E Pp' v (.mp r):=by cases e with|mp _ b bs cl f=>exact .mp _ _ _ _ f
def fS.ZY{d:List Deferred}(h:fS tt N (B.at a.defers) E Pp st a w):fS tt N (B.at d) E Pp st { a with defers:=d } w:=⟨h.wr,h.fk,h.size,rfl,h.pre,h.rv,h.fr,h.jo,h.fresh⟩
def Pn.trans{d:List Deferred}(fh:w0.heap.size<=w.heap.size)(m:Mk w0 d0 E st.o d w)
 (k:fS tt N ((B.here E Pp st.o d w).at a2.defers) E2 JC z a2 u) (g:Pn tt B.E0 JC w d E2 z.o a2.defers u x):Pn tt B.E0 JC w0 d0 E2 z.o a2.defers u x:=by
 cases x with
 |none=>exact Mk.trans fh m k g
 |some q=>obtain⟨e,b,h,h1,h2,h3⟩:=g;have m':=m;obtain⟨bs,f,_,_⟩:=m';refine⟨e++bs,b,h,by rw[h1,f];simp,?_,h3⟩;have:=Mk.trans (B:=B) (a2:={ a2 with defers:=b.map tc++(e.map tc++d) }) fh m (d2:=b.map tc++(e.map tc++d)) (fS.ZY (B:=B.here E Pp st.o d w) k) h2;rw[f]at this;simpa using this
def Pn.after{d:List Deferred}(fh:w0.heap.size<=w.heap.size)(m:Pn tt B.E0 Pp w0 d0 E st.o d w x)
 (k:fS tt N ((B.here E Pp st.o d w).at a2.defers) E2 JC z a2 u) (g:Mk w d E2 z.o a2.defers u):Pn tt B.E0 JC w0 d0 E2 z.o a2.defers u x:=by
 cases x with
 |none=>exact Mk.trans fh m k g
 |some q=>
  obtain⟨e,b,i,h1,h2,h3⟩:=m;obtain⟨bs,h,j,f⟩:=g;refine⟨e,bs++b,i,by rw[h,h1];simp,?_,h3.Q2⟩
  have:=Mk.trans (B:=B) (st:=st) (E:=E) (Pp:=Pp) (a2:={ a2 with defers:=bs.map tc++(b.map tc++(e.map tc++d0)) }) fh h2 (d2:=bs.map tc++(b.map tc++(e.map tc++d0)))
   (by have:=fS.ZY (d:=bs.map tc++(b.map tc++(e.map tc++d0))) (B:=B.here E Pp st.o d w) k;exact this) ⟨bs,rfl,j,f⟩
  simpa using this
def IN(f:ec P G.tt)(hb:B.E0.length=G.n0){id:Nat}{ops:Array Oper}{Q:St->Prop}{X:Act->World->Prop}(l:∀E Pp st a w,fS G.tt G.n B E Pp st a w->Q st->X a w)(hs:fS G.tt G.n B E Pp st a w)(h:zE dz G (jT P G.tt) id ops true st Q):
 wpAnyIn (kS none) 0 P .any ops (λe a w=>match e with| .normal=>X a w|_=>False) ops.size (fj ops.size false) a { w with drawn:=w.drawn+1 }:=by
 have b:qJ G ops ops.toList 0 ops.toList=true/\mb dz G (jT P G.tt) ops.toList (ch ops.toList) (mE 0 ops.toList) 0 ⟨st.s,fw (iY st.s ops.toList ops.toList) 0 st.o⟩ Q:=by
  simp only[zE]at h;split at h
  ·exact⟨h.1 (λh=>h),h.2⟩
  ·have h1:=h.1 (λh=>h);simp only[bw]at h1;refine⟨h1.1,?_⟩;rw[<- wQ dz G (jT P G.tt) _ _ _ _ _ ?_ h1.2]
   ·exact h.2
   ·intro i m o k;obtain⟨j,e1,e2,_⟩:=(ru _ _ _ _ _).1 k;rw[tQ,e2,dW];exact e1
 obtain⟨h1,h2⟩:=b;have g:fS G.tt G.n B E (gK G.tt E st.o w Pp (iY st.s ops.toList ops.toList)) ⟨st.s,fw (iY st.s ops.toList ops.toList) 0 st.o⟩ a { w with drawn:=w.drawn+1 }:=by have:=(hs.EX.mN (iY st.s ops.toList ops.toList)).drew;exact cL.JP (st:=⟨st.s,fw (iY st.s ops.toList ops.toList) 0 st.o⟩) this (λt=>(hs.fk t).mono (λ_ _ h=>h) (λ_ _ h=>.inl h)) hs.size hs.defers
 rw[cI,ey]at h2;exact(H9 (r0:=none) (B:=B) f hb h1 (Q:=Q) (Q':=λe a w=>match e with| .normal=>X a w|_=>False) l (λ_ _ _ h=>h) ops.size _ _ _ _ E _ a _ (lM.start ops) g h2).any
def Ru(L:ec P G.tt)(hm:P.follows .mixedOrders=true)(hL:∀c st Q,LP c st Q->qU P G.tt G.n G.n0 none c st Q):∀(c:Code)(st:St)(Q:Option Dl->Ex->St->Prop),CB dz G (jT P G.tt) LP c st Q->ZL P G.tt G.n G.n0 c st Q:=by
 have hP:=λc st Q (h:mC dz G (jT P G.tt) LP c st Q)=>o9 (r:=none) L hm hL c st Q h;intro c;induction c with
 |region id ops draw=>
  intro st Q h;unfold CB at h;split at h
  ·intro B E Pp a w hb hs;have:=Ho (B:=B.here E Pp st.o a.defers w) L hb (all:=ops) (Q:=λo s=>Q o .normal s) ops.toList 0 rfl st E Pp a w hs.here h;refine wpIn_mono (Q:=λe D w'=>∃x g E' Pp',e= .normal/\fS G.tt G.n ((B.here E Pp st.o a.defers w).at D.defers) E' Pp' g D w'/\(match x with|none=>D.defers=a.defers|some q=>∃Z,D.defers=HZ q Z::a.defers/\VR G.tt B.E0 Pp' Z (.mp q.r))/\Q x .normal g) (wpIn_region (by rw[ey]at this;rw[JT];exact this)) ?_;rintro e D w' ⟨x,g,E',Pp',rfl,f,W,H⟩;refine⟨.normal,g,E',Pp',x,trivial,hs.back (d2:=D.defers) f,?_,f.fr.size,H⟩;cases x with
   |none=>exact Mk.none W
   |some q=>obtain⟨Z,h1,h2⟩:=W;exact⟨[],[],Z,h1,Mk.none rfl,h2⟩
  ·split at h
   ·rename_i p o ad;cases J:(vu 0 ops.toList&&uH 0 ops.toList)with
    |false=>rw[J]at h;exact h.elim
    |true=>
     rw[J]at h;rw[bw]at J;have ae:=kD.of ad J.1 J.2;intro B E Pp a w hb hs;obtain⟨U,ab⟩:∃U,U=DfQ G.tt G.n (B.here E Pp st.o a.defers w) (λo s=>Q o .normal s):=⟨_,rfl⟩
     have ah:=IN (B:=B.here E Pp st.o a.defers w) (ops:=(⟨p⟩:Array Oper)) L hb (Q:=λs=>Dj dz G (jT P G.tt) ops.toList [o] s λx s=>Q x .normal s)
      (X:=λa w=>wpOpIn (kS none) 0 P ops U p.length (λD w'=>U .normal D w') a w)
      (λE' Pp' g D w' f H=>by have:=Ho (B:=B.here E Pp st.o a.defers w) L hb (all:=ops) (Q:=λo s=>Q o .normal s) [o] p.length (by rw[uJ ad];simp) g E' Pp' D w' f H;rw[<- ab]at this;simp only[dJ,List.range'_one,wpOpsIn_cons]at this;exact this) hs.here h
     have ac:=any_push (n:=0) ae (F:=kS none) (P:=P) (Q:=U) (Q1:=λe a w=>match e with| .normal=>wpOpIn (kS none) 0 P ops U p.length (λD w'=>U .normal D w') a w|_=>False)
      (λe a w he h=>by cases e<;>first|exact he rfl|exact h) (λa w h=>h) p.length (fj (p.length+1) false) a { w with drawn:=w.drawn+1 } yS (by simp[bO]) (λj o ho hj=>by rw[bO,Array.getElem?_replicate]at hj;split at hj<;>simp at hj) (yU ah)
     subst ab;refine wpIn_mono (wpIn_region_any hm (by rw[show ops.size=p.length+1 by rw[ae.size];rfl];exact ac)) ?_;rintro e D w' ⟨x,g,E',Pp',rfl,f,W,H⟩;refine⟨.normal,g,E',Pp',x,trivial,hs.back (d2:=D.defers) f,?_,f.fr.size,H⟩;cases x with
     |none=>exact Mk.none W
     |some q=>obtain⟨Z,h1,h2⟩:=W;exact⟨[],[],Z,h1,Mk.none rfl,h2⟩
   ·exact h.elim
  ·exact .K1 (hP _ _ _ h)
 |seq x y M K=>
  intro st Q h B E Pp a w hb hs;unfold CB at h;split at h
  ·refine wpIn_seq (wpIn_mono (hP _ _ _ h B E Pp a w hb hs) ?_);rintro e D w' ⟨ex,g,E',Pp',he,f,l,fh,H⟩;cases e<;>cases ex<;>simp only[pn]at he
   ·refine wpIn_mono (K _ _ H (B.here E' Pp' g.o D.defers w') E' Pp' D w' hb f.here) ?_;rintro e2 a2 u ⟨O,z,E2,JC,x2,V,k,m2,T,q2⟩;exact⟨O,z,E2,JC,x2,V,fS.back (B:=B.at D.defers) f k,Pn.trans fh l k m2,bQ fh T,q2⟩
   ·subst he;exact⟨.exit _,g,E',Pp',none,rfl,f,l,fh,H⟩
   ·exact⟨.ret,g,E',Pp',none,trivial,f,l,fh,H⟩
  ·refine wpIn_seq (wpIn_mono (M _ _ h B E Pp a w hb hs) ?_);rintro e D w' ⟨ex,g,E',Pp',x,he,f,l,fh,H⟩;cases e<;>cases ex<;>simp only[pn]at he
   ·refine wpIn_mono (hP _ _ _ H (B.here E' Pp' g.o D.defers w') E' Pp' D w' hb f.here) ?_;rintro e2 a2 u ⟨O,z,E2,JC,V,k,m2,T,q2⟩;exact⟨O,z,E2,JC,x,V,fS.back (B:=B.at D.defers) f k,Pn.after fh l k m2,bQ fh T,q2⟩
   ·subst he;exact⟨.exit _,g,E',Pp',x,rfl,f,l,fh,H⟩
   ·exact⟨.ret,g,E',Pp',x,trivial,f,l,fh,H⟩
 |cond c x y M K=>
  intro st Q h B E Pp a w hb hs;have hc:=eG hs.fk c;unfold CB at h
  have I:∀(b t:Bool),ev st.s c= .bool t->t=b->fS G.tt G.n B E Pp (zC c b st) a w:=by
   intro b t m ht;cases c with
   |tmp d=>
    simp only[zC];simp only[ev]at m
    have hl:look st.s d= .bool t:=by
     cases W:look st.s d<;>rw[W]at m<;>simp[norm]at m
     rw[m]
    exact om hs hl ht
   |_=>exact hs
  split at h
  ·rename_i m;rw[m]at hc;generalize Y:a.eval c=v at hc;cases hc;exact wpIn_cond_true Y (M _ _ h B E Pp a w hb hs)
  ·rename_i m;rw[m]at hc;generalize Y:a.eval c=v at hc;cases hc;exact wpIn_cond_false Y (K _ _ h B E Pp a w hb hs)
  ·rename_i t m;rw[m]at hc;generalize Y:a.eval c=v at hc;cases hc;cases t with
   |true=>exact wpIn_cond_true Y (M _ _ (h.1 rfl) B E Pp a w hb (I _ _ m rfl))
   |false=>exact wpIn_cond_false Y (K _ _ (h.2 rfl) B E Pp a w hb (I _ _ m rfl))
  ·exact h.elim
 |block id c ih=>
  intro st Q h B E Pp a w hb hs;unfold CB at h;refine wpIn_block (wpIn_mono (ih _ _ h B E Pp a w hb hs) ?_);rintro e D w' ⟨ex,g,E',Pp',x,he,f,l,fh,H⟩;cases e<;>cases ex<;>simp only[pn]at he
  ·exact⟨.normal,g,E',Pp',x,trivial,f,l,fh,H⟩
  ·rename_i i j;subst he;simp only[Exit.inBlock];simp only at H;by_cases S:i=id
   ·subst S;rw[jq]at H;rw[if_pos rfl];exact⟨.normal,g,E',Pp',x,trivial,f,l,fh,H⟩
   ·have hb:nb i id=false:=by
     cases hb:nb i id with
     |false=>rfl
     |true=>exact absurd (cR hb) S
    rw[hb]at H;rw[if_neg S];exact⟨.exit _,g,E',Pp',x,rfl,f,l,fh,H⟩
  ·exact⟨.ret,g,E',Pp',x,trivial,f,l,fh,H⟩
 |_=>intro st Q h;exact .K1 (hP _ _ _ h)
def tU{tmps:Array Value}{R:Ending->World->Prop}{ds:List Deferred}:∀(bs:List Nat)(w:World),bs.Nodup->(∀b∈bs,B.w0.heap.size<=b/\w.heap[b]? =some (.deferred (some []))/\¬own E st.o b)->fS tt N B E Pp st a w->
 (∀w',fS tt N B E Pp st a w'->(∀k,k∉bs->w'.heap[k]? =w.heap[k]?)->nG P fn tmps R ds w')->nG P fn tmps R (bs.map tc++ds) w
 |[],w,_,_,hs,h=>h w hs λ_ _=>rfl
 |b::bs,w,fR,hb,hs,h=>by
  rw[cw]at fR;obtain⟨h1,h2,h3⟩:=hb b yS;refine .inl ⟨b,w.putObj b (.deferred none),rfl,run_takeDeferred h2,?_⟩;refine tU bs _ fR.2 (λb' e=>?_) (hs.Hr h2 h3 h1) λw' f hk=>h w' f λk g=>?_
  ·obtain⟨i,l,j⟩:=hb b' (by simp[e]);refine⟨i,?_,j⟩;rw[World.putObj_heap_other (by rintro rfl;exact fR.1 e)];exact l
  ·rw[hk k (λh=>g (by simp[h])),World.putObj_heap_other (by rintro rfl;exact g yS)]
def HK:∀{a b:List Nat},a.map tc=b.map tc->a=b
 |[],[],_=>rfl
 |[],_::_,h=>yC h
 |_::_,[],h=>yC h
 |x::a,y::b,h=>by
  simp only[bJ,gN]at h;have:x=y:=by have:=h.1;unfold tc at this;cases this;rfl
  rw[this,HK h.2]
def Jn(n:Nat)(q:Dl):Oper:={ dst:=none,op:=.call { callee:=.builtin .delete,args:= #[.tmp n,.tmp (n+1)],argTypes:=q.ts },type:=q.ty,pos:= "",after:= #[],guard:=none }
def FC.Tu(hL:∀c st Q,LP c st Q->qU P G.tt G.n G.n0 none c st Q){f:FuncId}{objs:List Ob}{args:List PV}{K:PV->List Ob->Prop}(ab:ec P G.tt)(hm:P.follows .mixedOrders=true)(hf:P.funcs[f]? =some fn)(hb:fn.body=some c)(Z:fn.results.toList=[])
 (hs:((fn.name== "runtime.NumGoroutine")==false&&nb fn.ntmps G.n&&nb (ch objs) G.n0&&ir (ch args) G.n)=true)
 (h:CB dz G (jT P G.tt) LP c (oD objs args) λx e st=>match e with
   | .exit _=>False
   |_=>match x with
    |none=>gD G G.n0 [] st K
    |some q=>dY dz G (jT P G.tt) (Jn G.n q) ⟨(G.n,.mp q.r)::(G.n+1,.str q.s)::st.s,st.o⟩ λ_ st=>gD G G.n0 [] st K):FC P G.tt f objs args K:=by
 simp only[bw,beq_iff_eq]at hs;obtain⟨⟨⟨h1,h2⟩,h3⟩,h4⟩:=hs;have h3:=cR h3;rw[cI]at h3;intro E Pp w vals hw hv;obtain⟨E1,ao⟩:=Kn (cR h2) h4 E Pp w vals hw hv;refine .inl ⟨mn hf hb h1,?_⟩
 have az:∀(tmps:Array Value) w,(results fn tmps).run P w= .ok (.tuple #[]) w:=by
  intro tmps w;have:fn.results= #[]:=by apply fL;simpa using Z
  simp[results,this]
 have fin:∀{N E' Pp' g H w' d},fS G.tt N { w0:=w,E0:=E,P0:=Pp,kI:=own E objs,d0:=d } E' Pp' g H w'->gD G G.n0 [] g K->∀tmps,nG P fn tmps (kE G.tt E Pp objs w K) [] w':=by
  intro N E' Pp' g H w' d r hr tmps;refine⟨_,az tmps w',?_⟩;have hr:x6 objs.length (.tup []) g.o (AN G.n0 g (.tup [])) K:=by rw[h3];exact hr
  exact wI hw (s':=g.s) (o':=g.o) r (.tup [] [] .nil) hr
 refine callsIn_wide.1 (wy hf hb (wpIn_mono (Ru ab hm hL c _ _ h _ E1 Pp _ w (by rw[<- h3];exact hw.len) ao) ?_));rintro e H w' ⟨ex,g,E',Pp',x,he,r,aa,fh,hq⟩
 have go:(match x with
  |none=>gD G G.n0 [] g K
  |some q=>dY dz G (jT P G.tt) (Jn G.n q) ⟨(G.n,.mp q.r)::(G.n+1,.str q.s)::g.s,g.o⟩ λ_ st=>gD G G.n0 [] st K)->nG P fn H.tmps (kE G.tt E Pp objs w K) H.defers w':=by
  intro hr;cases x with
  |none=>obtain⟨bs,J,fR,j⟩:=aa;rw[J];exact tU bs w' fR (λb hb=>⟨(j b hb).1,(j b hb).2.2.1,(j b hb).2.2.2⟩) r λu p _=>fin p hr _
  |some q=>
   obtain⟨S,X,L,hd,⟨bs,J,fR,j⟩,ap⟩:=aa;have J:bs=X++S:=HK (yU J.symm);subst J;rw[cV]at fR;obtain⟨aA,an,ac⟩:=fR;have hN:H.tmps.size=G.n:=r.size;rw[hd];refine tU X w' aA (λb hb=>⟨(j b (by simp[hb])).1,(j b (by simp[hb])).2.2.1,(j b (by simp[hb])).2.2.2⟩) r λu p aj=>?_
   have W:∀b∈S,w.heap.size<=b/\b<u.heap.size/\u.heap[b]? =some (.deferred (some []))/\¬own E' g.o b:=λb hb=>by
    obtain⟨q1,q2,q3,q4⟩:=j b (by simp[hb]);have hk:=aj b (λh=>ac b h b hb rfl);rw[q3]at hk;refine⟨q1,?_,hk,q4⟩;rcases bV b u.heap.size with h'|h'
    ·exact h'
    ·rw[cC h']at hk;cases hk
   obtain⟨I,D⟩:∃I:Act,I=⟨H.tmps++ #[L,.string ⟨q.s.toArray⟩],H.defers⟩:=⟨_,rfl⟩;obtain⟨k,m⟩:∃k:St,k=⟨(G.n,.mp q.r)::(G.n+1,.str q.s)::g.s,g.o⟩:=⟨_,rfl⟩;have g0:I.tmps.getD G.n undef=L:=by rw[D,<-hN];simp[bO]
   have g1:I.tmps.getD (G.n+1) undef= .string ⟨q.s.toArray⟩:=by rw[D,<-hN];simp[bO,Il]
   have ad:∀t,VR G.tt E' Pp' (I.tmps.getD t undef) (look k.s t):=by
    intro t;rw[m];simp only[iK];split
    ·rename_i e;subst e;rw[g0];exact(VR.fQ r.pre (λ_ _ h=>h)).1 ap
    ·split
     ·rename_i e;subst e;rw[g1];have:=VR.str (tt:=G.tt) (E:=E') (Pp:=Pp') ⟨q.s.toArray⟩;simpa using this
     ·rename_i e1 e2;have:=r.fk t
      have e:I.tmps.getD t undef=H.tmps.getD t undef:=by
       rw[D];simp only[bO,Il];split
       ·rfl
       ·rename_i aF;rw[cC yQ,cC yO]
      rw[e];exact this
   have V:fS G.tt (G.n+2) { w0:=w,E0:=E,P0:=Pp,kI:=own E objs,d0:=H.defers } E' Pp' k I u:=⟨by rw[m];exact p.wr,ad,by rw[D];simp[hN],by rw[D],p.pre,p.rv,p.fr,p.jo,by rw[m];exact p.fresh⟩
   have y:=tw (r0:=none) (B:={ w0:=u,E0:=E,P0:=Pp',kI:=own E' k.o,d0:=H.defers }) (a:=I) (w:=u) (E:=E') (Pp:=Pp') (st:=k) ab (by show E.length=_;rw[hw.len,h3])
    ⟨V.wr,V.pre,λ_ _ h=>h,Fr.refl _ _,λ_ _ h=>.inl h,λi o ri b h1 h2 h3 h4=>.inr ⟨i,o,ri,h1,h2,h3,h4⟩⟩ ad (by rw[m];exact hr) (Q:=λ_ _ _=>False)
   have y:=y.2;have T:execOp I.eval (Jn G.n q)=(do let v <-Builtin.delete_ q.ts q.ty #[L,.string ⟨q.s.toArray⟩];pure (.value v):Sem Next):=by simp[execOp,Jn,resolve,invoke,builtin,Act.eval,g0,g1]
   have M:invoke (HZ q L).target (HZ q L).args=(do let v <-Builtin.delete_ q.ts q.ty #[L,.string ⟨q.s.toArray⟩];pure (.value v):Sem Next):=by simp[HZ,invoke,builtin]
   rw[show (kS none).round=none from rfl,Oper.semAt_none,T,<-M]at y;generalize l:(invoke (HZ q L).target (HZ q L).args).run P u=res at y
   have Y:∃v O,res= .ok (.value v) O:=by
    rw[M,Sem.run_bind]at l;cases hx:(Builtin.delete_ q.ts q.ty #[L,.string ⟨q.s.toArray⟩]).run P u with
    |ok v O=>rw[hx]at l;exact⟨v,O,by rw[<- l];rfl⟩
    |halt s O=>rw[hx]at l;rw[<- l]at y;cases s<;>exact y.elim
   obtain⟨v,O,rfl⟩:=Y;obtain⟨am,E3,av,v',pv,af,_,ak,aB,al,_,_⟩:=y;have af:I.put (Jn G.n q).dst v'=I:=rfl;refine .inr ⟨.delete,q.ts,q.ty,#[false,false],_,v,O,rfl,l,?_⟩;have k3:fS G.tt (G.n+2) { w0:=u,E0:=E,P0:=Pp',kI:=own E' k.o,d0:=H.defers } E3 av am I O:=aB.JP ak (by rw[D];simp[hN]) (by rw[D]);have b3:=fS.back (d:=H.defers) (d2:=H.defers) V k3;have ae:k.o=g.o:=by rw[m]
   refine tU S O an (λb hb=>?_) b3 λw4 ay _=>fin ay al _;obtain⟨q1,q2,q3,q4⟩:=W b hb;refine⟨q1,?_,?_⟩
   ·rw[k3.fr.block b q2 (by show ¬own E' k.o b;rw[ae];exact q4)];exact q3
   ·rintro⟨i,o,ri,r1,r2,r3,r4⟩;rcases k3.fresh i o ri b r1 r2 r3 r4 with U|U
    ·have U:u.heap.size<=b:=U;omega
    ·have U:own E' k.o b:=U;rw[ae]at U;exact q4 U
 cases e<;>cases ex<;>simp only[pn]at he
 ·exact go (by cases x<;>exact hq)
 ·exact hq.elim
 ·exact go (by cases x<;>exact hq)
end
end
end Go.VC
namespace Go.VC
open Go
section
variable [Inhabited pB]
noncomputable section
class Sd (p:Prop) where
 b:Bool
 h:b=true->p
class Qh (C:iZ) where
 c:∀(w:O7)(o:List Ob)(a:List PV)(K:PV->List Ob->Prop),(∀v o',Sd (K v o'))->Sd (C w o a K)
mutual
def AU:D->D->Bool
 | .int a,.int b=>decide (a=b)
 | .bool a,.bool b=>match a,b with|true,true=>true|false,false=>true|_,_=>false
 | .str a,.str b=>decide (a=b)
 | .list a,.list b=>AT a b
 | .nil,.nil=>true
 | .ptr a,.ptr b=>Gr a b
 |_,_=>false
def Gr:List D->List D->Bool
 |[],[]=>true
 |a::x,b::y=>match AU a b with|true=>Gr x y|false=>false
 |_,_=>false
def AT:List (List D)->List (List D)->Bool
 |[],[]=>true
 |a::x,b::y=>match Gr a b with|true=>AT x y|false=>false
 |_,_=>false
end
mutual
def kT:∀{a b:D},AU a b=true->a=b
 | .int a,b,h=>by cases b<;>simp[AU]at h;rw[h]
 | .bool a,b,h=>by cases b<;>simp[AU]at h;rename_i c;cases a<;>cases c<;>simp_all
 | .str a,b,h=>by cases b<;>simp[AU]at h;rw[h]
 | .list a,b,h=>by cases b<;>simp[AU]at h;rw[Ek h]
 | .nil,b,h=>by cases b<;>simp[AU]at h;rfl
 | .ptr a,b,h=>by cases b<;>simp[AU]at h;rw[Cb h]
def Cb:∀{a b:List D},Gr a b=true->a=b
 |[],b,h=>by cases b<;>simp[Gr]at h;rfl
 |a::x,b,h=>by
  cases b with
  |nil=>simp[Gr]at h
  |cons b y=>
   rw[Gr]at h;split at h
   ·rename_i h1;rw[kT h1,Cb h]
   ·cases h
def Ek:∀{a b:List (List D)},AT a b=true->a=b
 |[],b,h=>by cases b<;>simp[AT]at h;rfl
 |a::x,b,h=>by
  cases b with
  |nil=>simp[AT]at h
  |cons b y=>
   rw[AT]at h;split at h
   ·rename_i h1;rw[Cb h1,Ek h]
   ·cases h
end
mutual
def td:PV->PV->Bool
 | .undef,.undef=>true
 | .int k a,.int k' b=>Gb k k'&&decide (a=b)
 | .bl a,.bl b=>Jw a b
 | .bool a,.bool b=>Jw a b
 | .str a,.str b=>decide (a=b)
 | .lst e d,.lst e' d'=>nb e e'&&AU d d'
 | .nx e d,.nx e' d'=>nb e e'&&AU d d'
 | .agg a,.agg b=>yT a b
 | .tup a,.tup b=>yT a b
 | .box b o,.box b' o'=>nb b b'&&nb o o'
 | .row e r,.row e' r'=>nb e e'&&nb r r'
 | .fH e r i o,.fH e' r' i' o'=>nb e e'&&nb r r'&&decide (i=i')&&nb o o'
 | .js e d i o,.js e' d' i' o'=>nb e e'&&AU d d'&&decide (i=i')&&nb o o'
 | .cP a o,.cP b o'=>yT a b&&nb o o'
 | .dptr t d,.dptr t' d'=>nb t t'&&AU d d'
 | .rK t d o,.rK t' d' o'=>nb t t'&&AU d d'&&nb o o'
 | .cy f a,.cy f' b=>nb f f'&&yT a b
 | .nilp,.nilp=>true
 | .nilm,.nilm=>true
 | .nilf,.nilf=>true
 | .lf,.lf=>true
 | .mp m,.mp m'=>nb m m'
 | .dmp e d,.dmp e' d'=>nb e e'&&AU d d'
 | .it i,.it j=>nb i j
 | .j9 i,.j9 j=>nb i j
 |_,_=>false
def yT:List PV->List PV->Bool
 |[],[]=>true
 |a::x,b::y=>match td a b with|true=>yT x y|false=>false
 |_,_=>false
end
mutual
def B9:∀{a b:PV},td a b=true->a=b
 | .agg a,b,h=>by cases b<;>simp[td]at h;rw[pq h]
 | .tup a,b,h=>by cases b<;>simp[td]at h;rw[pq h]
 | .cP a o,b,h=>by cases b<;>simp[td]at h;rw[pq h.1,h.2]
 | .cy f a,b,h=>by cases b<;>simp[td]at h;rw[h.1,pq h.2]
 | .lst e d,b,h=>by cases b<;>simp[td]at h;rw[h.1,kT h.2]
 | .nx e d,b,h=>by cases b<;>simp[td]at h;rw[h.1,kT h.2]
 | .dptr e d,b,h=>by cases b<;>simp[td]at h;rw[h.1,kT h.2]
 | .dmp e d,b,h=>by cases b<;>simp[td]at h;rw[h.1,kT h.2]
 | .rK e d o,b,h=>by cases b<;>simp[td]at h;rw[h.1.1,kT h.1.2,h.2]
 | .js e d i o,b,h=>by cases b<;>simp[td]at h;rw[h.1.1.1,kT h.1.1.2,h.1.2,h.2]
 | .int k a,b,h=>by cases b<;>simp[td,Gb]at h;rw[h.1,h.2]
 | .bl a,b,h=>by cases b<;>simp[td,zl]at h;rw[h]
 | .bool a,b,h=>by cases b<;>simp[td,zl]at h;rw[h]
 | .str a,b,h=>by cases b<;>simp[td]at h;rw[h]
 | .box a o,b,h=>by cases b<;>simp[td]at h;rw[h.1,h.2]
 | .row a o,b,h=>by cases b<;>simp[td]at h;rw[h.1,h.2]
 | .fH e r i o,b,h=>by cases b<;>simp[td]at h;rw[h.1.1.1,h.1.1.2,h.1.2,h.2]
 | .mp m,b,h=>by cases b<;>simp[td]at h;rw[h]
 | .it m,b,h=>by cases b<;>simp[td]at h;rw[h]
 | .j9 m,b,h=>by cases b<;>simp[td]at h;rw[h]
 | .undef,b,h=>by cases b<;>simp[td]at h;rfl
 | .nilp,b,h=>by cases b<;>simp[td]at h;rfl
 | .nilm,b,h=>by cases b<;>simp[td]at h;rfl
 | .nilf,b,h=>by cases b<;>simp[td]at h;rfl
 | .lf,b,h=>by cases b<;>simp[td]at h;rfl
def pq:∀{a b:List PV},yT a b=true->a=b
 |[],b,h=>by cases b<;>simp[yT]at h;rfl
 |a::x,b,h=>by
  cases b with
  |nil=>simp[yT]at h
  |cons b y=>
   rw[yT]at h;split at h
   ·rename_i h1;rw[B9 h1,pq h]
   ·cases h
end
def XV:Ob->Ob->Bool
 | .box a,.box b=>yT a b
 | .row e d w,.row e' d' w'=>nb e e'&&AU d d'&&Jw w w'
 | .map k e d,.map k' e' d'=>decide (k=k')&&nb e e'&&AU d d'
 | .iter m d,.iter m' d'=>nb m m'&&AU d d'
 | .diter e d s,.diter e' d' s'=>nb e e'&&AU d d'&&AU s s'
 | .dead,.dead=>true
 |_,_=>false
def Rs{a b:Ob}(h:XV a b=true):a=b:=by
 cases a<;>cases b<;>simp[XV,zl]at h
 ·rw[pq h]
 ·rw[h.1.1,kT h.1.2,h.2]
 ·rw[h.1.1,h.1.2,kT h.2]
 ·rw[h.1,kT h.2]
 ·rw[h.1.1,kT h.1.2,kT h.2]
 ·rfl
def Ca:List Ob->List Ob->Bool
 |[],[]=>true
 |a::x,b::y=>match XV a b with|true=>Ca x y|false=>false
 |_,_=>false
def uf:∀{a b:List Ob},Ca a b=true->a=b
 |[],b,h=>by cases b<;>simp[Ca]at h;rfl
 |a::x,b,h=>by
  cases b with
  |nil=>simp[Ca]at h
  |cons b y=>
   rw[Ca]at h;split at h
   ·rename_i h1;rw[Rs h1,uf h]
   ·cases h
def Ux(s1 s2:cU):cU->Bool
 |[]=>true
 |(t,_)::l=>match td (look s1 t) (look s2 t)with|true=>Ux s1 s2 l|false=>false
def Gq{s1 s2:cU}:∀{l:cU},Ux s1 s2 l=true->∀t p,(t,p)∈l->look s1 t=look s2 t
 |[],_,t,p,h=>yE h
 |(u,q)::l,h,t,p,hm=>by
  rw[Ux]at h;split at h
  ·rename_i h1;rcases bN.1 hm with e|hm
   ·cases e;exact B9 h1
   ·exact Gq h t p hm
  ·cases h
def u7:∀{s:cU}{t:Nat},(∀p,(t,p)∉s)->look s t= .undef
 |[],_,_=>rfl
 |(k,v)::s,t,h=>by rw[iK,if_neg (λe=>h v (by simp[e]))];exact u7 λp hp=>h p (by simp[hp])
def OO(s1 s2:St):Bool:=match Ca s1.o s2.o with|true=>Ux s1.s s2.s s1.s&&Ux s1.s s2.s s2.s|false=>false
def HX{s1 s2:St}(h:OO s1 s2=true):(∀t,look s1.s t=look s2.s t)/\s1.o=s2.o:=by
 unfold OO at h;split at h
 ·rename_i ho;rw[bw]at h;refine⟨λt=>?_,uf ho⟩;by_cases h1:∃p,(t,p)∈s1.s
  ·exact Gq h.1 t _ h1.choose_spec
  by_cases h2:∃p,(t,p)∈s2.s
  ·exact Gq h.2 t _ h2.choose_spec
  rw[u7 (λp hp=>h1 ⟨p,hp⟩),u7 (λp hp=>h2 ⟨p,hp⟩)]
 ·cases h
def QH(i j n:Nat):List Nat:=(fb n).map λk=>match nb k i,nb k j with|true,_=>j|false,true=>i|false,false=>k
def S1(f:Nat->Nat->Bool)(lo n:Nat):Bool:=nX (λi=>nX (λj=>match ir (lo+i+1) (lo+j)with|true=>f (lo+i) (lo+j)|false=>false) (fb (n-lo))) (fb (n-lo))
def Fz(n0:Nat)(s1 s2:St):Bool:=match OO s1 s2 with
 |true=>true
 |false=>S1 (λi j=>match jz (QH i j (ch s2.o))&&xd n0 0 (QH i j (ch s2.o))with|true=>OO s1 (uT (QH i j (ch s2.o)) s2)|false=>false) n0 (ch s2.o)
def IG{n0:Nat}{s1 s2:St}(h:Fz n0 s1 s2=true):uP n0 s1 s2:=by
 unfold Fz at h;split at h
 ·rename_i h1;exact⟨s2,.inl rfl,HX h1⟩
 ·unfold S1 at h;rw[py]at h;obtain⟨i,_,h⟩:=eE.1 h;rw[py]at h;obtain⟨j,_,h⟩:=eE.1 h;split at h
  ·dsimp only at h;split at h
   ·rename_i h2;exact⟨_,.inr ⟨_,h2,rfl⟩,HX h⟩
   ·cases h
  ·cases h
namespace Sd
instance (priority:=low) sdCall {C:iZ} [h:Qh C] {w:O7}{o:List Ob}{a:List PV}{K:PV->List Ob->Prop} [hK:∀v o',Sd (K v o')]:Sd (C w o a K):=h.c w o a K hK
instance:Sd False:=⟨false,λh=>yC h⟩
instance:Sd True:=⟨true,λ_=>trivial⟩
instance Ak{p q:Prop}[x:Sd p][y:Sd q]:Sd (p/\q):=⟨x.b&&y.b,λh=>by rw[bw]at h;exact⟨x.h h.1,y.h h.2⟩⟩
instance {p q:Prop} [x:Sd p] [y:Sd q]:Sd (p\/q):=⟨x.b||y.b,λh=>by rw[fU]at h;exact h.imp x.h y.h⟩
instance {p:Prop} [x:Sd p]:Sd (True->p):=⟨x.b,λh _=>x.h h⟩
instance {c d:Bool}{p:Prop} [x:Sd p]:Sd (c=d->p):=⟨match decEq c d with|isTrue _=>x.b|isFalse _=>true,λh e=>by subst e;cases c<;>exact x.h h⟩
instance KB{c:Bool}{p q:Prop}[x:Sd p][y:Sd q]:Sd (bif c then p else q):=⟨match c with|true=>x.b|false=>y.b,λh=>by cases c;exact y.h h;exact x.h h⟩
instance {q:Bool->Prop} [x:∀b,Sd (q b)]:Sd (∀b,q b):=⟨(x true).b&&(x false).b,λh b=>by rw[bw]at h;cases b;exact(x false).h h.2;exact(x true).h h.1⟩
@[reducible] def dec(p:Prop)[Decidable p]:Sd p:=⟨decide p,of_decide_eq_true⟩
instance {k:IntKind}{n:Int}:Sd (Std.inr k n):=by unfold Std dz;exact dec _
instance (priority:=2000) {k:IntKind}{n:Int}{p q:Prop} [x:Sd p] [y:Sd q]:Sd ((Std.inr k n/\(True->p))\/(True->q)):=⟨match (inferInstance:Sd (Std.inr k n)).b with|true=>x.b|false=>y.b,λh=>by
 split at h
 ·rename_i e;exact .inl ⟨(inferInstance:Sd (Std.inr k n)).h e,λ_=>x.h h⟩
 ·exact .inr λ_=>y.h h⟩
instance {k n:Int}:Sd (Std.idx k n):=by unfold Std dz;exact dec _
instance {k n:Int}:Sd (Std.gh k n):=by unfold Std dz;exact dec _
instance {n:Int}:Sd (Std.Wf n):=by unfold Std dz;exact dec _
instance {k n:Int}{p:Prop} [x:Sd p]:Sd (Std.same k n->p):=⟨x.b,λh _=>x.h h⟩
def fX{a b:Int}(h:Std.same a b):a=b:=by unfold Std dz at h;exact h
instance {c:Bool}{k n:Int}{p:Prop} [x:Sd p]:Sd ((c=true->Std.same k n)->p):=⟨match c&& !decide (k=n)with|true=>true|false=>x.b,λh g=>by
 split at h
 ·rename_i e;simp only[bw,ib,decide_eq_false_iff_not]at e;exact absurd (fX (g e.1)) e.2
 ·exact x.h h⟩
instance (a b:Bool):Sd (a=b):=dec _
instance {a b:Int}:Sd (Std.same a b):=by unfold Std dz;exact dec _
def Dd(s:D)(j:Int):Bool:=(cn s).any λr=>match r with|[.int k]=>decide (k=j)|_=>false
def Ah{s:D}{j:Int}:Dd s j=true↔[.int j]∈cn s:=by
 unfold Dd;rw[eE];constructor
 ·rintro⟨r,hr,h⟩;split at h
  ·rw[<- of_decide_eq_true h];exact hr
  ·cases h
 ·intro h;exact⟨_,h,yS⟩
instance {d s:D}{p:Prop} [x:Sd p]:Sd (Std.nE d s->p):=⟨match (fb (cn d).length).all λj=>Dd s j with|true=>x.b|false=>true,λh g=>by have g:∀j:Nat,j<(cn d).length->[.int (j:Int)]∈cn s:=g;have e:((fb (cn d).length).all λj=>Dd s j)=true:=eF.2 λj hj=>Ah.2 (g j (te.1 hj));rw[e]at h;exact x.h h⟩
instance {d s:D}{p:Int->Prop} [x:∀j,Sd (p j)]:Sd (∀j,Std.qb d s j->p j):=⟨(fb (cn d).length).all λi=>match Dd s i with|true=>true|false=>(x i).b,λh j hj=>by
 have hj:0<=j/\j<((cn d).length:Int)/\[.int j]∉cn s:=hj;obtain⟨k,rfl⟩:=Ij hj.1;have h:=eF.1 h k (te.2 yO);split at h
 ·rename_i e;exact absurd (Ah.1 e) hj.2.2
 ·exact(x k).h h⟩
section
variable {tt:TypeId->Option TI}{K:PV->Prop} [hK:∀v,Sd (K v)]
instance {op:BinOp}{e:Bool}:Sd (GG Std op e K):=by delta GG;split<;>infer_instance
instance {op:BinOp}{e:Bool}:Sd (GD op e K):=by delta GD;split<;>infer_instance
instance {o:Option TI}{op:BinOp}{b:Bool}:Sd (nC Std o op b K):=by delta nC;split<;>infer_instance
instance {op:BinOp}{k:IntKind}{a b:Int}:Sd (Mu Std op k a b K):=by delta Mu;split<;>infer_instance
instance {op:BinOp}{a b:List UInt8}:Sd (Ms Std op a b K):=by delta Ms;split<;>infer_instance
instance {s:cU}{o:Option Operand}{d:Int}{K:Int->Prop} [∀v,Sd (K v)]:Sd (tO s o d K):=by delta tO;(repeat' split)<;>infer_instance
section
variable {ty:TypeId}{s:cU}{ob:List Ob}
@[reducible] def KY {x}:Sd (cF Std tt (.move x) ty s ob K):=by
 delta cF;try dsimp only
 (repeat' split)<;>first|infer_instance|exact⟨false,λh=>yC h⟩
@[reducible] def K0 {x}:Sd (cF Std tt (.assign x) ty s ob K):=by
 delta cF;try dsimp only
 (repeat' split)<;>first|infer_instance|exact⟨false,λh=>yC h⟩
@[reducible] def KX {c a b}:Sd (cF Std tt (.pick c a b) ty s ob K):=by
 delta cF;try dsimp only
 (repeat' split)<;>first|infer_instance|exact⟨false,λh=>yC h⟩
@[reducible] def KZ {t x}:Sd (cF Std tt (.load t x) ty s ob K):=by
 delta cF;try dsimp only
 (repeat' split)<;>first|infer_instance|exact⟨false,λh=>yC h⟩
@[reducible] def xZ {x}:Sd (cF Std tt (.nilCheck x) ty s ob K):=by
 delta cF;try dsimp only
 (repeat' split)<;>first|infer_instance|exact⟨false,λh=>yC h⟩
@[reducible] def HD {op t x y z}:Sd (cF Std tt (.binOp op t x y z) ty s ob K):=by
 delta cF;try dsimp only
 (repeat' split)<;>first|infer_instance|exact⟨false,λh=>yC h⟩
@[reducible] def KW {op t x}:Sd (cF Std tt (.unOp op t x) ty s ob K):=by
 delta cF;try dsimp only
 (repeat' split)<;>first|infer_instance|exact⟨false,λh=>yC h⟩
@[reducible] def Ay {a b x}:Sd (cF Std tt (.convert a b x) ty s ob K):=by
 delta cF;try dsimp only
 (repeat' split)<;>first|infer_instance|exact⟨false,λh=>yC h⟩
@[reducible] def vR {t x f}:Sd (cF Std tt (.fieldAddr t x f) ty s ob K):=by
 delta cF;try dsimp only
 (repeat' split)<;>first|infer_instance|exact⟨false,λh=>yC h⟩
@[reducible] def HC {t x f}:Sd (cF Std tt (.field t x f) ty s ob K):=by
 delta cF;try dsimp only
 (repeat' split)<;>first|infer_instance|exact⟨false,λh=>yC h⟩
@[reducible] def vQ {t x i}:Sd (cF Std tt (.indexAddr t x i) ty s ob K):=by
 delta cF;try dsimp only
 (repeat' split)<;>first|infer_instance|exact⟨false,λh=>yC h⟩
@[reducible] def HB {t x i}:Sd (cF Std tt (.index t x i) ty s ob K):=by
 delta cF;try dsimp only
 (repeat' split)<;>first|infer_instance|exact⟨false,λh=>yC h⟩
@[reducible] def Od {t ps}:Sd (cF Std tt (.build t ps) ty s ob K):=by
 delta cF;try dsimp only
 (repeat' split)<;>first|infer_instance|exact⟨false,λh=>yC h⟩
@[reducible] def Ax {x n}:Sd (cF Std tt (.extract x n) ty s ob K):=by
 delta cF;try dsimp only
 (repeat' split)<;>first|infer_instance|exact⟨false,λh=>yC h⟩
@[reducible] def Oc {t x lo hi mx}:Sd (cF Std tt (.slice t x lo hi mx) ty s ob K):=by
 delta cF;try dsimp only
 (repeat' split)<;>first|infer_instance|exact⟨false,λh=>yC h⟩
@[reducible] def x5 {f a b}:Sd (cF Std tt (.makeFunc f a b) ty s ob K):=by
 delta cF;try dsimp only
 (repeat' split)<;>first|infer_instance|exact⟨false,λh=>yC h⟩
@[reducible] def BP {t n ps}:Sd (cF Std tt (.buildSlice t n ps) ty s ob K):=by
 delta cF;try dsimp only
 (repeat' split)<;>first|infer_instance|exact⟨false,λh=>yC h⟩
@[reducible] def QW {i}:Sd (cF Std tt (.call i) ty s ob K):=by
 delta cF;try dsimp only
 (repeat' split)<;>first|infer_instance|exact⟨false,λh=>yC h⟩
end
instance QM{op:Op}{ty:TypeId}{s:cU}{ob:List Ob}:Sd (cF Std tt op ty s ob K):=match op with
 | .move _=>KY
 | .assign _=>K0
 | .pick _ _ _=>KX
 | .load _ _=>KZ
 | .nilCheck _=>xZ
 | .binOp _ _ _ _ _=>HD
 | .unOp _ _ _=>KW
 | .convert _ _ _=>Ay
 | .fieldAddr _ _ _=>vR
 | .field _ _ _=>HC
 | .indexAddr _ _ _=>vQ
 | .index _ _ _=>HB
 | .build _ _=>Od
 | .extract _ _=>Ax
 | .slice _ _ _ _ _=>Oc
 | .makeFunc _ _ _=>x5
 | .buildSlice _ _ _=>BP
 | .call _=>QW
 |_=>⟨false,λh=>yC h⟩
end
section
variable {G:ea}{C:iZ} [hC:Qh C]
section
variable {K:PV->St->Prop} [hK:∀v s,Sd (K v s)]
instance aai{f:O7}{args:List PV}{s:cU}{o1:List Ob}{F:List Nat}:Sd (qz C f args s o1 F K):=by delta qz;infer_instance
instance {f:O7}{args:List PV}{s:cU}{o1:List Ob}:Sd (vb C f args s o1 K):=by delta vb;infer_instance
instance {f:FuncId}{args:List PV}{st:St}:Sd (DQ G C f args st K):=by delta DQ;split<;>infer_instance
instance {kp:Bool}{f:FuncId}{args:List PV}{st:St}:Sd (uk G C kp f args st K):=by
 delta uk
 split
 ·infer_instance
 split
 ·(repeat' split)<;>first|infer_instance|(refine @KB _ _ _ (sdCall (hK:=λv o'=>?_)) inferInstance;(repeat' split)<;>first|infer_instance|exact⟨false,λh=>yC h⟩)|exact⟨false,λh=>yC h⟩
 ·have:∀v o',Sd (bif gE ll o' then(match plain 8 v with|true=>K v st|false=>(match eI f G.Uw&&ub G.tt v o' with|true=>K (IM (λi=>ch st.o+i) 8 v) ⟨st.s,gi st.o o'⟩|false=>K (IM (λi=>ch st.o+i) 8 v) ⟨mM (eV (ids st.o 8) args) st.o st.s,gi (fw (eV (ids st.o 8) args) 0 st.o) o'⟩))else False):=λv o'=>by
   have:Sd (match plain 8 v with|true=>K v st|false=>(match eI f G.Uw&&ub G.tt v o' with|true=>K (IM (λi=>ch st.o+i) 8 v) ⟨st.s,gi st.o o'⟩|false=>K (IM (λi=>ch st.o+i) 8 v) ⟨mM (eV (ids st.o 8) args) st.o st.s,gi (fw (eV (ids st.o 8) args) 0 st.o) o'⟩)):=by(repeat' split)<;>infer_instance
   infer_instance
  infer_instance
instance {i:Nat}{args:List PV}{st:St}:Sd (CI C i args st K):=by
 delta CI
 split
 ·delta CI.Lg;infer_instance
 ·infer_instance
instance {ob:List Ob}{p:PV}{K:TypeId->D->Prop} [∀e d,Sd (K e d)]:Sd (Kq ob p K):=by
 delta Kq
 (repeat' split)<;>first|infer_instance|exact⟨false,λh=>yC h⟩
instance {t:TypeId}{m k x:Operand}{st:St}{K:St->Prop} [∀s,Sd (K s)]:Sd (rD Std G t m k x st K):=by
 delta rD
 (repeat' split)<;>first|infer_instance|exact⟨false,λh=>yC h⟩
instance {t:TypeId}{m k x:Operand}{st:St}{K:St->Prop} [∀s,Sd (K s)]:Sd (u6 Std G t m k x st K):=by
 delta u6
 (repeat' split)<;>first|infer_instance|exact⟨false,λh=>yC h⟩
instance {t:TypeId}{m k:Operand}{st:St}{K:St->Prop} [∀s,Sd (K s)]:Sd (yg Std G t m k st K):=by
 delta yg
 (repeat' split)<;>first|infer_instance|exact⟨false,λh=>yC h⟩
instance {d kd:D}{k1 k2:D->Prop} [∀d,Sd (k1 d)] [∀d,Sd (k2 d)]:Sd (Oo Std d kd k1 k2):=by delta Oo;infer_instance
instance {kd:D}{k:D->Prop} [∀d,Sd (k d)]:Sd (AL kd k):=by delta AL;infer_instance
instance {e:TypeId}{x:PV}{d2:D}{st:St}{o:Oper}:Sd (Bc Std G e x d2 st o K):=by
 delta Bc
 (repeat' split)<;>first|infer_instance|exact⟨false,λh=>yC h⟩
section
variable {dst:Option Nat}{ty:TypeId}{pos:String}{aft:Array Edge}{gd:Option (Nat×Bool)}{st:St}
@[reducible] def N5 {t}:Sd (dY Std G C ⟨dst,.alloc t,ty,pos,aft,gd⟩ st K):=by
 delta dY
 try dsimp only
 (repeat' split)<;>first|infer_instance|exact⟨false,λh=>yC h⟩
@[reducible] def Te {t x}:Sd (dY Std G C ⟨dst,.box t x,ty,pos,aft,gd⟩ st K):=by
 delta dY
 try dsimp only
 (repeat' split)<;>first|infer_instance|exact⟨false,λh=>yC h⟩
@[reducible] def N0 {t x y}:Sd (dY Std G C ⟨dst,.store t x y,ty,pos,aft,gd⟩ st K):=by
 delta dY
 try dsimp only
 (repeat' split)<;>first|infer_instance|exact⟨false,λh=>yC h⟩
@[reducible] def BI {t n ps}:Sd (dY Std G C ⟨dst,.buildSlice t n ps,ty,pos,aft,gd⟩ st K):=by
 delta dY
 try dsimp only
 (repeat' split)<;>first|infer_instance|exact⟨false,λh=>yC h⟩
@[reducible] def KJ {x}:Sd (dY Std G C ⟨dst,.assign x,ty,pos,aft,gd⟩ st K):=by
 delta dY
 try dsimp only
 (repeat' split)<;>first|infer_instance|exact⟨false,λh=>yC h⟩
@[reducible] def QQ {x}:Sd (dY Std G C ⟨dst,.move x,ty,pos,aft,gd⟩ st K):=by
 delta dY
 try dsimp only
 (repeat' split)<;>first|infer_instance|exact KY|exact⟨false,λh=>yC h⟩
@[reducible] def N4 {t ps}:Sd (dY Std G C ⟨dst,.build t ps,ty,pos,aft,gd⟩ st K):=by
 delta dY
 try dsimp only
 (repeat' split)<;>first|infer_instance|exact⟨false,λh=>yC h⟩
@[reducible] def N1 {t x lo hi mx}:Sd (dY Std G C ⟨dst,.slice t x lo hi mx,ty,pos,aft,gd⟩ st K):=by
 delta dY
 try dsimp only
 (repeat' split)<;>first|infer_instance|exact⟨false,λh=>yC h⟩
@[reducible] def IH {t x}:Sd (dY Std G C ⟨dst,.makeMap t x,ty,pos,aft,gd⟩ st K):=by
 delta dY
 try dsimp only
 (repeat' split)<;>first|infer_instance|exact⟨false,λh=>yC h⟩
@[reducible] def KG {t m k ok}:Sd (dY Std G C ⟨dst,.lookup t m k ok,ty,pos,aft,gd⟩ st K):=by
 delta dY
 try dsimp only
 (repeat' split)<;>first|infer_instance|exact⟨false,λh=>yC h⟩
@[reducible] def Dg {t m k x}:Sd (dY Std G C ⟨dst,.mapUpdate t m k x,ty,pos,aft,gd⟩ st K):=by
 delta dY
 try dsimp only
 (repeat' split)<;>first|infer_instance|exact⟨false,λh=>yC h⟩
@[reducible] def KH {t m k x}:Sd (dY Std G C ⟨dst,.insert t m k x,ty,pos,aft,gd⟩ st K):=by
 delta dY
 try dsimp only
 (repeat' split)<;>first|infer_instance|exact⟨false,λh=>yC h⟩
@[reducible] def QR {i}:Sd (dY Std G C ⟨dst,.call i,ty,pos,aft,gd⟩ st K):=by
 delta dY
 try dsimp only
 (repeat' split)<;>first|infer_instance|exact⟨false,λh=>yC h⟩
@[reducible] def N2 {t m}:Sd (dY Std G C ⟨dst,.range t m,ty,pos,aft,gd⟩ st K):=by
 delta dY
 try dsimp only
 (repeat' split)<;>first|infer_instance|exact⟨false,λh=>yC h⟩
@[reducible] def QP {it str}:Sd (dY Std G C ⟨dst,.next it str,ty,pos,aft,gd⟩ st K):=by
 delta dY
 try dsimp only
 (repeat' split)<;>first|infer_instance|exact⟨false,λh=>yC h⟩
@[reducible] def N3 {it}:Sd (dY Std G C ⟨dst,.entry it,ty,pos,aft,gd⟩ st K):=by
 delta dY
 try dsimp only
 (repeat' split)<;>first|infer_instance|exact⟨false,λh=>yC h⟩
@[reducible] def Dh {t x y}:Sd (dY Std G C ⟨dst,.makeSlice t x y,ty,pos,aft,gd⟩ st K):=by
 delta dY
 try dsimp only
 (repeat' split)<;>first|infer_instance|exact⟨false,λh=>yC h⟩
end
instance qk{o:Oper}{st:St}:Sd (dY Std G C o st K):=match o with
 |⟨_,.alloc _,_,_,_,_⟩=>N5
 |⟨_,.box _ _,_,_,_,_⟩=>Te
 |⟨_,.store _ _ _,_,_,_,_⟩=>N0
 |⟨_,.buildSlice _ _ _,_,_,_,_⟩=>BI
 |⟨_,.assign _,_,_,_,_⟩=>KJ
 |⟨_,.build _ _,_,_,_,_⟩=>N4
 |⟨_,.slice _ _ _ _ _,_,_,_,_⟩=>N1
 |⟨_,.makeMap _ _,_,_,_,_⟩=>IH
 |⟨_,.lookup _ _ _ _,_,_,_,_⟩=>KG
 |⟨_,.mapUpdate _ _ _ _,_,_,_,_⟩=>Dg
 |⟨_,.insert _ _ _ _,_,_,_,_⟩=>KH
 |⟨_,.call _,_,_,_,_⟩=>QR
 |⟨_,.range _ _,_,_,_,_⟩=>N2
 |⟨_,.next _ _,_,_,_,_⟩=>QP
 |⟨_,.entry _,_,_,_,_⟩=>N3
 |⟨_,.makeSlice _ _ _,_,_,_,_⟩=>Dh
 |⟨_,.move _,_,_,_,_⟩=>QQ
 |⟨_,.pick _ _ _,t,_,_,_⟩=>KX (tt:=G.tt) (ty:=t) (ob:=st.o) (K:=λv=>K v st)
 |⟨_,.load _ _,t,_,_,_⟩=>KZ (tt:=G.tt) (ty:=t) (ob:=st.o) (K:=λv=>K v st)
 |⟨_,.nilCheck _,t,_,_,_⟩=>xZ (tt:=G.tt) (ty:=t) (ob:=st.o) (K:=λv=>K v st)
 |⟨_,.binOp _ _ _ _ u,t,_,_,_⟩=>HD (z:=u) (tt:=G.tt) (ty:=t) (ob:=st.o) (K:=λv=>K v st)
 |⟨_,.unOp _ u _,t,_,_,_⟩=>KW (t:=u) (tt:=G.tt) (ty:=t) (ob:=st.o) (K:=λv=>K v st)
 |⟨_,.convert _ _ _,t,_,_,_⟩=>Ay (tt:=G.tt) (ty:=t) (ob:=st.o) (K:=λv=>K v st)
 |⟨_,.fieldAddr _ _ _,t,_,_,_⟩=>vR (tt:=G.tt) (ty:=t) (ob:=st.o) (K:=λv=>K v st)
 |⟨_,.field _ _ _,t,_,_,_⟩=>HC (tt:=G.tt) (ty:=t) (ob:=st.o) (K:=λv=>K v st)
 |⟨_,.indexAddr _ _ _,t,_,_,_⟩=>vQ (tt:=G.tt) (ty:=t) (ob:=st.o) (K:=λv=>K v st)
 |⟨_,.index _ _ _,t,_,_,_⟩=>HB (tt:=G.tt) (ty:=t) (ob:=st.o) (K:=λv=>K v st)
 |⟨_,.extract _ _,t,_,_,_⟩=>Ax (tt:=G.tt) (ty:=t) (ob:=st.o) (K:=λv=>K v st)
 |⟨_,.makeFunc _ _ _,t,_,_,_⟩=>x5 (tt:=G.tt) (ty:=t) (ob:=st.o) (K:=λv=>K v st)
 |_=>⟨false,λh=>yC h⟩
end
abbrev X6:=St->(PV->St->Prop)->Prop
instance {d:Option Nat}{v:PV}{st:St}{K:St->Prop} [hK:∀s,Sd (K s)]:Sd (sK G d v st K):=by
 delta sK
 split
 ·rename_i d;have:Sd (match st with|⟨s,o⟩=>K ⟨(d,v)::s,o⟩):=by split;infer_instance
  infer_instance
 ·infer_instance
@[reducible] def QO{run:X6}(hr:∀st k,(∀v s,Sd (k v s))->Sd (run st k)){all:List Oper}{o:Oper}{st:St}{K:St->Prop}(hK:∀s,Sd (K s)):Sd (guarded G all o st run K):=by
 have hp:∀st,Sd (run st λv st'=>sK G o.dst v st' K):=λst=>hr _ _ λ_ _=>inferInstance
 delta guarded
 (repeat' split)<;>first|exact hp _|infer_instance|exact⟨false,λh=>yC h⟩
@[reducible] def Kz(all:List Oper):∀(l:List Oper)(st:St)(Q:St->Prop),(∀s,Sd (Q s))->Sd (xA Std G C all l st Q)
 |[],st,Q,hQ=>hQ st
 |o::os,st,Q,hQ=>QO (run:=λst K=>dY Std G C o st K) (λ_ _ hk=>qk (hK:=hk)) λs=>Kz all os s Q hQ
@[reducible] def Td{all:List Oper}{o:Oper}{st:St}{K:St->Prop}(hK:∀s,Sd (K s)):Sd (guarded G all o st (λst K=>cF Std G.tt o.op o.type st.s (zY G st.o) λv=>K v st) K):=QO (λ_ _ hk=>QM (hK:=λv=>hk v _)) hK
@[reducible] def KA(all:List Oper):∀(l:List Nat)(st:St)(Q:St->Prop),(∀s,Sd (Q s))->Sd (yr Std G C all l st Q)
 |[],st,Q,hQ=>hQ st
 |i::p,st,Q,hQ=>by
  show Sd (match tR all i with|none=>False|some o=>_);split
  ·infer_instance
  ·split
   ·exact Td λs=>KA all p s Q hQ
   ·exact QO (run:=λst K=>dY Std G C _ st K) (λ_ _ hk=>qk (hK:=hk)) λs=>KA all p s Q hQ
@[reducible] def KC{f:Nat->Oper->Prop}(hf:∀i o,Sd (f i o)):∀l,Sd (EF f l)
 |[]=>⟨true,λ_=>trivial⟩
 |[x]=>hf _ _
 |x::y::l=> @Ak _ _ (hf _ _) (KC hf (y::l))
instance QL{n0:Nat}{s1 s2:St}:Sd (uP n0 s1 s2):=⟨Fz n0 s1 s2,IG⟩
@[reducible] def De(all:List Oper):∀(n:Nat)(rest:List (Nat×Nat×Oper))(L:Nat)(st:St)(Q:St->Prop),(∀s,Sd (Q s))->Sd (mb Std G C all n rest L st Q)
 |0,rest,L,st,Q,hQ=>by
  show Sd (match jk L rest with|[]=>Q st|_=>False);split
  ·exact hQ _
  ·infer_instance
 |n+1,rest,L,st,Q,hQ=>by
  show Sd (match nS G L rest with|some (i,o)=>_|none=>_);split
  ·exact Td λs=>De all n _ _ s Q hQ
  ·split
   ·exact hQ _
   ·split
    ·exact QO (run:=λst K=>dY Std G C _ st K) (λ_ _ hk=>qk (hK:=hk)) λs=>De all n _ _ s _ λs1=> @Ak _ _ (KC (λi o=>QO (run:=λst K=>dY Std G C o st K) (λ_ _ hk=>qk (hK:=hk)) λs=>De all n _ _ s _ λs2=>QL) _) (hQ s1)
    ·exact KC (λi o=>QO (run:=λst K=>dY Std G C o st K) (λ_ _ hk=>qk (hK:=hk)) λs=>De all n _ _ s Q hQ) _
@[reducible] def PS{id:Nat}{ops:Array Oper}{d:Bool}{st:St}{Q:St->Prop}(hQ:∀s,Sd (Q s)):Sd (zE Std G C id ops d st Q):=by
 have ff:∀b:Bool,Sd ((False->False)->b=true):=λb=>⟨b,λh _=>h⟩
 delta zE
 split
 ·exact Kz _ _ _ _ hQ
 ·split
  ·exact @Ak _ _ (ff _) (De _ _ _ _ _ _ hQ)
  ·exact @Ak _ _ (ff _) (KA _ _ _ _ hQ)
variable {LP:Code->St->(Ex->St->Prop)->Prop}
@[reducible] def lb(hL:∀c st Q,(∀e s,Sd (Q e s))->Sd (LP c st Q)):∀(c:Code)(st:St)(Q:Ex->St->Prop),(∀e s,Sd (Q e s))->Sd (mC Std G C LP c st Q)
 | .skip,st,Q,hQ=>hQ _ _
 | .region id ops d,st,Q,hQ=>by
  show Sd (match eI id G.nh with|true=>LP (.region id ops d) st Q|false=>zE Std G C id ops d st (Q .normal));split
  ·exact hL _ _ _ hQ
  ·exact PS λs=>hQ _ s
 | .seq x y,st,Q,hQ=>lb hL x st _ λe s=>match e with| .normal=>lb hL y s Q hQ| .exit i=>hQ _ _| .ret=>hQ _ _
 | .cond c x y,st,Q,hQ=>by show Sd (match ev st.s c with| .bl true=>mC Std G C LP x st Q| .bl false=>mC Std G C LP y st Q| .bool t=>(t=true->mC Std G C LP x (zC c true st) Q)/\(t=false->mC Std G C LP y (zC c false st) Q)|_=>False);have h1:=λst=>lb hL x st Q hQ;have h2:=λst=>lb hL y st Q hQ;split<;>first|exact h1 _|exact h2 _|infer_instance
 | .block id c,st,Q,hQ=>lb hL c st _ λe s=>match e with
  | .exit j=>by show Sd (match nb j id with|true=>Q .normal s|false=>Q (.exit j) s);split<;>exact hQ _ _
  | .normal=>hQ _ _| .ret=>hQ _ _
 | .exit id,st,Q,hQ=>hQ _ _
 | .ret,st,Q,hQ=>hQ _ _
 | .loop c,st,Q,hQ=>hL _ _ _ hQ
 | .rangeFunc g ps c1 c2,st,Q,hQ=>hL _ _ _ hQ
 |_,_,_,_=>by unfold mC;exact⟨false,λh=>yC h⟩
@[reducible] def Ai{n0:Nat}{rs:List ResultVar}{st:St}{K:PV->List Ob->Prop}(hK:∀v o,Sd (K v o)):Sd (gD G n0 rs st K):=by
 delta gD
 split
 ·delta x6;infer_instance
 ·infer_instance
end
section
variable {G:ea}{C:iZ} [hC:Qh C]
@[reducible] def Fw(all:List Oper):∀(l:List Oper)(st:St)(Q:Option Dl->St->Prop),(∀x s,Sd (Q x s))->Sd (Dj Std G C all l st Q)
 |[],st,Q,hQ=>hQ none st
 |o::os,st,Q,hQ=>by
  unfold Dj;split
  ·split
   ·split
    ·exact @KB _ _ _ (Kz _ _ _ _ λs=>hQ _ s) inferInstance
    ·infer_instance
   ·infer_instance
  ·exact QO (run:=λst K=>dY Std G C o st K) (λ_ _ hk=>qk (hK:=hk)) λs=>Fw all os s Q hQ
variable {LP:Code->St->(Ex->St->Prop)->Prop}
@[reducible] def Aj(hL:∀c st Q,(∀e s,Sd (Q e s))->Sd (LP c st Q)):∀(c:Code)(st:St)(Q:Option Dl->Ex->St->Prop),(∀x e s,Sd (Q x e s))->Sd (CB Std G C LP c st Q)
 | .region id ops d,st,Q,hQ=>by
  unfold CB;split
  ·exact Fw _ _ _ _ λx s=>hQ x _ s
  ·split
   ·exact @KB _ _ _ (PS λs=>Fw _ _ _ _ λx s=>hQ x _ s) inferInstance
   ·infer_instance
  ·exact lb hL _ _ _ λe s=>hQ none e s
 | .seq x y,st,Q,hQ=>by
  unfold CB;split
  ·exact lb hL x st _ λe s=>match e with| .normal=>Aj hL y s Q hQ| .exit i=>hQ _ _ _| .ret=>hQ _ _ _
  ·exact Aj hL x st _ λo e s=>match e with| .normal=>lb hL y s _ λe s=>hQ o e s| .exit i=>hQ _ _ _| .ret=>hQ _ _ _
 | .cond c x y,st,Q,hQ=>by unfold CB;have h1:=λst=>Aj hL x st Q hQ;have h2:=λst=>Aj hL y st Q hQ;split<;>first|exact h1 _|exact h2 _|infer_instance
 | .block id c,st,Q,hQ=>by
  unfold CB;exact Aj hL c st _ λo e s=>match e with
  | .exit j=>by show Sd (match nb j id with|true=>Q o .normal s|false=>Q o (.exit j) s);split<;>exact hQ _ _ _
  | .normal=>hQ _ _ _| .ret=>hQ _ _ _
 | .skip,st,Q,hQ=>lb hL .skip st _ λe s=>hQ none e s
 | .exit i,st,Q,hQ=>lb hL (.exit i) st _ λe s=>hQ none e s
 | .ret,st,Q,hQ=>lb hL .ret st _ λe s=>hQ none e s
 | .loop c,st,Q,hQ=>lb hL (.loop c) st _ λe s=>hQ none e s
 |_,_,_,_=>⟨false,λh=>yC h⟩
end
def Ig(G:ea)(C:iZ)(LP:Code->St->(Ex->St->Prop)->Prop)(c:Code)(Q:Ex->St->Prop):Nat->St->Prop
 |0,_=>False
 |m+1,st=>mC Std G C LP c st λe st'=>match e with| .normal=>Ig G C LP c Q m st'| .exit i=>Q (.exit i) st'| .ret=>Q .ret st'
section
variable {P:Program}{tt:TypeId->Option TI}{G:ea}
variable {st:St}{Q:Ex->St->Prop}{G:ea}{fn:Func}{args:List PV}
def E4(P:Program)(G:ea)(c:Code)(st:St)(Q:Ex->St->Prop):Prop:=∀r,(G.Cz=false->r=none)->qU P G.tt G.n G.n0 r c st Q
def NU(s:cU):List Nat->List Nat
 |[]=>[]
 |t::l=>match look s t with| .mp r=>r::NU s l|_=>NU s l
theorem E4.sinks{c:Code}(js:List Nat)(h:E4 P G c (sinks js st) Q):E4 P G c st Q:=by intro r hr B E Pp a w hb hs;obtain⟨Pp1,q1,q2,q3,q4⟩:=tz js hs.EX hs.fk;refine wpIn_mono (h r hr B E Pp1 a w hb (cL.JP q1 q3 hs.size hs.defers)) λe a' w' h=>h
def MU(htt:ec P G.tt)(hm:P.follows .mixedOrders=true){c:Code}{m:Nat}(h:Ig G (jT P G.tt) (E4 P G) c Q m st):E4 P G (.loop c) st Q:=by
 intro r hr;refine yl (λs t=>s=t) (λ_ hs e=>e▸⟨_,hs,λ_ h=>h⟩) (λx:Nat×St=>x.2) (λx=>Ig G (jT P G.tt) (E4 P G) c Q x.1 x.2) (·.1) (m,st) h rfl ?_;rintro⟨k,s⟩ hx;cases k with
 |zero=>exact hx.elim
 |succ k=>
  refine qU.mono (o9 htt hm (λ_ _ _ h=>h r hr) c s _ hx) λe s' hq=>?_;cases e with
  |normal=>exact⟨(k,s'),hq,Nat.lt_succ_self k,rfl⟩
  |exit i=>exact hq
  |ret=>exact hq
@[reducible] def Fx{C:iZ}[Qh C]{LP:Code->St->(Ex->St->Prop)->Prop}(hL:∀c st Q,(∀e s,Sd (Q e s))->Sd (LP c st Q)){c:Code}{Q:Ex->St->Prop}(hQ:∀e s,Sd (Q e s)):∀m st,Sd (Ig G C LP c Q m st)
 |0,_=>⟨false,λh=>yC h⟩
 |m+1,st=>lb hL c st _ λe s=>match e with| .normal=>Fx hL hQ m s| .exit _=>hQ _ _| .ret=>hQ _ _
def Ww(s:cU):List Nat->cU
 |[]=>[]
 |t::l=>(t,look s t)::Ww s l
def KN:∀p:PV,xK p p:=by intro p;cases p<;>simp[xK]
def Kr(s:cU):∀l,Fp s (Ww s l)
 |[]=>trivial
 |_::l=>⟨KN _,Kr s l⟩
instance {n:Nat}{st:St}{Q:Ex->St->Prop} [∀e s,Sd (Q e s)]:Sd (qn n st Q):=by
 delta qn
 (repeat' split)<;>first|infer_instance|exact⟨false,λh=>yC h⟩
@[reducible] def QN[Qh (jT P G.tt)](htt:ec P G.tt)(hm:P.follows .mixedOrders=true):Nat->∀(c:Code)(st:St)(Q:Ex->St->Prop),(∀e s,Sd (Q e s))->Sd (E4 P G c st Q)
 |0,_,_,_,_=>⟨false,λh=>yC h⟩
 |n+1,c,st,Q,hQ=>match c with
  | .loop c=>⟨(Fx (QN htt hm n) hQ 100000 (sinks (NU st.s G.Ta) st)).b,λh=>E4.sinks _ (MU htt hm ((Fx (QN htt hm n) hQ 100000 (sinks (NU st.s G.Ta) st)).h h))⟩
  | .rangeFunc g ps c1 c2=>match hg:ev st.s g with
   | .cy f ma=>match hf:P.funcs[f]? with
    |some fn=>match hb:fn.body with
     |some code=>
      let x:Sd (xH G (jT P G.tt) f ma ps c1 c2 (Ww st.s (match G.SK with|[]=>D6 G.n 0|l=>l)) st Q):=by delta xH;infer_instance
      ⟨((fn.name== "runtime.NumGoroutine")==false&&gZ f kz&&dL G.Cz)&&x.b,λh=>by
        simp only[bw,beq_iff_eq]at h;have h5:G.Cz=false:=by have:=h.1.2;cases hr:G.Cz<;>simp[hr,dL]at this ⊢
        intro r hr;obtain rfl:=hr h5;exact xI hg ⟨hf,h.1.1.1,hb⟩ h.1.1.2 (Kr _ _) (x.h h.2)⟩
     |none=>⟨false,λh=>yC h⟩
    |none=>⟨false,λh=>yC h⟩
   |_=>⟨false,λh=>yC h⟩
  |_=>⟨false,λh=>yC h⟩
def Ks(G:ea)(rs:List ResultVar)(st:St):St:=match G.Ta with
 |[]=>st
 |_=>match xG G st rs with|some (.row _ r)=>⟨F9 st.o r st.s,fw [r] 0 st.o⟩|some v=>sinks (BS v) st|none=>st
def OH{tt:TypeId->Option TI}{B:jc}{E:List RI}{Pp:fE}{w:World}{a:Act}(r:Nat)(h:cL tt B E Pp st.o w)(hs:∀t,VR tt E Pp (a.tmps.getD t undef) (look st.s t)):
 cL tt B E (gK tt E st.o w Pp [r]) (fw [r] 0 st.o) w/\∀t,VR tt E (gK tt E st.o w Pp [r]) (a.tmps.getD t undef) (look (F9 st.o r st.s) t):=by
 refine⟨h.mN [r],λt'=>?_⟩;rw[va];have h2:=hs t';generalize look st.s t'=p at h2;unfold Oq;split
 ·rename_i e' x;cases hb:nb x r with
  |false=>exact h2.mono (λ_ _ h=>h) (λ_ _ h=>.inl h)
  |true=>have:=cR hb;subst this;exact(sS h.wr 8 _ _ h2 (λi hi=>hi)).mono (λ_ _ h=>yE h) (λ_ _ h=>h)
 ·exact h2.mono (λ_ _ h=>h) (λ_ _ h=>.inl h)
def FC.Tv{f:FuncId}{c:Code}{objs:List Ob}{K:PV->List Ob->Prop}(htt:ec P G.tt)(hm:P.follows .mixedOrders=true)(hf:P.funcs[f]? =some fn)(hb:fn.body=some c)
 (hs:((fn.name== "runtime.NumGoroutine")==false&&nb fn.ntmps G.n&&nb (ch objs) G.n0&&ir (ch args) G.n)=true)
 (h:mC Std G (jT P G.tt) (E4 P G) c (HP G.Wg objs args) λe st=>match e with| .exit _=>False|_=>gD G G.n0 fn.results.toList (Ks G fn.results.toList st) K):FC P G.tt f objs args K:=by
 simp only[bw,beq_iff_eq]at hs;obtain⟨⟨⟨h1,h2⟩,h3⟩,h4⟩:=hs;have h3:=cR h3;rw[cI]at h3;refine Cp (LP:=E4 P G) (λ_ _ _ h=>h none λ_=>rfl) htt hm h1 hf hb h3 _ (Km G.Wg (cR h2) h4) h ?_;intro E Pp w E' Pp' st' a' w' d hw hr hs'
 have key:∃JC,fS G.tt G.n { w0:=w,E0:=E,P0:=Pp,kI:=own E objs,d0:=d } E' JC (Ks G fn.results.toList st') a' w':=by
  unfold Ks;split
  ·exact⟨_,hs'⟩
  ·split
   ·rename_i r _;have q:=OH r hs'.EX hs'.fk;exact⟨_,cL.JP q.1 q.2 hs'.size hs'.defers⟩
   ·obtain⟨JC,q1,q2,q3,q4⟩:=tz (BS _) hs'.EX hs'.fk;exact⟨JC,cL.JP q1 q3 hs'.size hs'.defers⟩
   ·exact⟨_,hs'⟩
 generalize Ks G fn.results.toList st'=st' at hr key;obtain⟨JC,hs'⟩:=key;unfold gD at hr;split at hr
 ·rename_i p hp;obtain⟨v,h1,h2⟩:=tI htt hs' hp;rw[<- h3]at hr;exact⟨v,h1,wI hw (s':=st'.s) (o':=st'.o) hs' h2 hr⟩
 ·exact hr.elim
def FC.UF{f:FuncId}{c:Code}{K:PV->List Ob->Prop}(htt:ec P G.tt)(hm:P.follows .mixedOrders=true)(hf:P.funcs[f]? =some fn)(hb:fn.body=some c)
 (hs:((fn.name== "runtime.NumGoroutine")==false&&nb fn.ntmps G.n&&nb 0 G.n0&&ir (ch args) G.n)=true)
 (h:mC Std G (jT P G.tt) (E4 P G) c ⟨lR 0 args,[]⟩ λe st=>match e with| .exit _=>False|_=>BK G 0 fn.results.toList st K):FC P G.tt f [] args K:=by
 simp only[bw,beq_iff_eq]at hs;obtain⟨⟨⟨h1,h2⟩,h3⟩,h4⟩:=hs;have h3:=cR h3;exact Ql htt hm h1 hf hb (cR h2) h3.symm h4 (λ_ _ _ h=>h none λ_=>rfl) h
instance PR{G:ea}{n0:Nat}{rs:List ResultVar}{st:St}{K:PV->List Ob->Prop}[∀v o,Sd (K v o)]:Sd (BK G n0 rs st K):=by
 delta BK
 split<;>infer_instance
instance {st:St}{j j':LS}{K:St->Prop} [∀s,Sd (K s)]:Sd (iB st j j' K):=by
 delta iB
 (repeat' split)<;>first|infer_instance|exact⟨false,λh=>yC h⟩
instance {n0:Nat}{v:PV}{o:List Ob}{ps:List Nat}{K:PV->List Ob->Prop} [∀v o,Sd (K v o)]:Sd (x6 n0 v o ps K):=by delta x6;infer_instance
instance {n0:Nat}{e:Ex}{st:St}{K:PV->List Ob->Prop} [∀v o,Sd (K v o)]:Sd (mB n0 e st K):=by
 delta mB
 split<;>infer_instance
structure Rn (P:Program) (tt:TypeId->Option TI) where
 cfg:FuncId->Option ea
 Cz:Nat->List Nat->Option ea
 own:FuncId->Bool
 PZ:∀(f:FuncId)(o:List Ob)(a:List PV),Option { r:PV×List Ob // ∀K:PV->List Ob->Prop,K r.1 r.2->FC P tt f o a K }
 gss:∀(f:FuncId)(o:List Ob)(a:List PV),Option (PV×List Ob)
@[reducible] def Tc(htt:ec P tt)(hm:P.follows .mixedOrders=true)(R:Rn P tt)(rec:∀(w:O7)(o:List Ob)(a:List PV)(K:PV->List Ob->Prop),(∀v o',Sd (K v o'))->Sd (jT P tt w o a K))(f:FuncId)(o:List Ob)(a:List PV)(K:PV->List Ob->Prop)(hK:∀v o',Sd (K v o')):Sd (jT P tt (.fn f) o a K):=
 match R.PZ f o a with
  |some r=>⟨(hK r.1.1 r.1.2).b,λh=>r.2 K ((hK r.1.1 r.1.2).h h)⟩
  |none=>match hf:P.funcs[f]?,R.cfg f with
  |some fn,some G=>(match hb:fn.body with
   |some c=>match o,R.own f with
    |[],false=>
     let G':ea:={ G with tt:=tt,n0:=0,nh:=[],Cz:=false };have:Qh (jT P G'.tt):=⟨rec⟩;let x:=lb (G:=G') (C:=jT P G'.tt) (QN (G:=G') htt hm 9) c ⟨lR 0 a,[]⟩ (λe st=>match e with| .exit _=>False|_=>BK G' 0 fn.results.toList st K) λe s=>match e with| .exit _=>⟨false,λh=>yC h⟩| .normal=>PR| .ret=>PR
     ⟨(((fn.name== "runtime.NumGoroutine")==false&&nb fn.ntmps G'.n&&nb 0 G'.n0&&ir (ch a) G'.n)&&x.b),λh=>by rw[bw]at h;exact FC.UF (G:=G') htt hm hf hb h.1 (x.h h.2)⟩
    |o,_=>
     let G':ea:={ G with tt:=tt,n0:=ch o,nh:=[],Cz:=false };have:Qh (jT P G'.tt):=⟨rec⟩
     match hd:Eb c,hr:fn.results.toList with
     |true,[]=>
     let x:=Aj (G:=G') (C:=jT P G'.tt) (QN (G:=G') htt hm 9) c (oD o a) (λx e st=>match e with
      | .exit _=>False
      |_=>match x with
       |none=>gD G' G'.n0 [] st K
       |some q=>dY Std G' (jT P G'.tt) (Jn G'.n q) ⟨(G'.n,.mp q.r)::(G'.n+1,.str q.s)::st.s,st.o⟩ λ_ st=>gD G' G'.n0 [] st K)
      λx e s=>match e,x with
       | .exit _,_=>⟨false,λh=>yC h⟩
       | .normal,none=>Ai hK| .ret,none=>Ai hK
       | .normal,some q=>qk (hK:=λ_ _=>Ai hK)| .ret,some q=>qk (hK:=λ_ _=>Ai hK)
     ⟨(((fn.name== "runtime.NumGoroutine")==false&&nb fn.ntmps G'.n&&nb (ch o) G'.n0&&ir (ch a) G'.n)&&x.b),λh=>by rw[bw]at h;exact FC.Tu (G:=G') (LP:=E4 P G') (λ_ _ _ h=>h none λ_=>rfl) htt hm hf hb hr h.1 (x.h h.2)⟩
     |_,_=>
     let x:=lb (G:=G') (C:=jT P G'.tt) (QN (G:=G') htt hm 9) c (HP G'.Wg o a) (λe st=>match e with| .exit _=>False|_=>gD G' G'.n0 fn.results.toList (Ks G' fn.results.toList st) K) λe s=>match e with| .exit _=>⟨false,λh=>yC h⟩| .normal=>Ai hK| .ret=>Ai hK
     ⟨(((fn.name== "runtime.NumGoroutine")==false&&nb fn.ntmps G'.n&&nb (ch o) G'.n0&&ir (ch a) G'.n)&&x.b),λh=>by rw[bw]at h;exact FC.Tv (G:=G') htt hm hf hb h.1 (x.h h.2)⟩
   |none=>⟨false,λh=>yC h⟩)
  |_,_=>⟨false,λh=>yC h⟩
@[reducible] def Hl(htt:ec P tt)(hm:P.follows .mixedOrders=true)(R:Rn P tt):Nat->∀(w:O7)(o:List Ob)(a:List PV)(K:PV->List Ob->Prop),(∀v o',Sd (K v o'))->Sd (jT P tt w o a K)
 |0,_,_,_,_,_=>⟨false,λh=>yC h⟩
 |k+1,.j9,o,a,K,hK=>match o with
  | .loop n ps c1 c2 s .ready::os=>match R.Cz n ps with
   |some G=>
    let G':ea:={ G with tt:=tt,n:=n,n0:=ch os+1,nh:=[],Cz:=true };have:Qh (jT P G'.tt):=⟨Hl htt hm R k⟩
    let x:=lb (G:=G') (C:=jT P G'.tt) (QN (G:=G') htt hm 9) c1 (o8 s ps (.loop n ps c1 c2 s .ready::os) a)
     (λe st=>match e with| .normal=>iB st .ready .busy λst=>mC Std G' (jT P G'.tt) (E4 P G') c2 st λe st=>mB G'.n0 e st K|_=>False)
     λe s=>match e with
      | .normal=>
       have:∀st,Sd (mC Std G' (jT P G'.tt) (E4 P G') c2 st λe st=>mB G'.n0 e st K):=λst=>lb (G:=G') (C:=jT P G'.tt) (QN (G:=G') htt hm 9) c2 st _ λe s=>inferInstance
       inferInstanceAs (Sd (iB s .ready .busy λst=>mC Std G' (jT P G'.tt) (E4 P G') c2 st λe st=>mB G'.n0 e st K))
      | .exit _=>⟨false,λh=>yC h⟩| .ret=>⟨false,λh=>yC h⟩
    ⟨(nb (ch a) (ch ps)&&vv n ps)&&x.b,λh=>by simp only[bw]at h;exact YC.L2 (G:=G') htt hm (jq _) (jq _) h.1.1 h.1.2 λl=>⟨E4 P G',λ_ _ _ h=>h (some l) (λh=>yC h),x.h h.2⟩⟩
   |none=>⟨false,λh=>yC h⟩
  |_=>⟨false,λh=>yC h⟩
 |n+1,.fn f,o,a,K,hK=>match R.gss f o a with
  |some r=>
   let x:=Tc htt hm R (Hl htt hm R n) f o a (λv o'=>td v r.1=true/\Ca o' r.2=true) λv o'=>Ak
   ⟨x.b&&(hK r.1 r.2).b,λh=>by rw[bw]at h;exact FC.mono (x.h h.1) λv o' hv=>by rw[B9 hv.1,uf hv.2];exact(hK r.1 r.2).h h.2⟩
  |none=>Tc htt hm R (Hl htt hm R n) f o a K hK
end
end Sd
end
end
end Go.VC
