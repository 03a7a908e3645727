/- Part 3 of the common texts. -/
import Derived.Laws.StructEq
import Derived.ChangeArms
import Derived.ChangeShapes
import Derived.ChangeSame
import Derived.Carry
import Derived.JoinedCond
import Derived.Lib.ItoaNum
import Derived.Test.YtflmompnagpjeaaGreatDoorProg
import Derived.Sort.Walk0
import Derived.Shelf.GgSortFunc.InsertionK
import Derived.Shelf.SlSortCmp.Kit1
import Derived.Shelf.Strings.Builder1
import Derived.Test.YtflmompnagpjeaaGreatDoorPart2
set_option linter.all false
set_option maxRecDepth 100000
set_option maxHeartbeats 16000000
open And renaming intro→bk
open Array renaming ext→QJ,extract_eq_self_of_le→jq,foldl_toList→vZ,getD_eq_getD_getElem?→cO,getElem?_append_left→gK,getElem?_eq_none→cR,getElem?_eq_some_iff→gJ,getElem?_modify→jn,getElem?_setIfInBounds→AK,length_toList→fI,mapM_eq_mapM_toList→pb,replicate→hY,size_map→DA
open Bool renaming and_eq_true→bn,false_eq_true→cA,not_eq_true→Am,not_eq_true'→ij,not_false→tn,not_true→Gf,or_eq_false_iff→K5,or_eq_true→fS,true_and→iA
open Classical renaming skolem→KV
open ForInStep renaming yield→p7
open Int renaming natCast_nonneg→eO,ofNat→bj,ofNat_eq_natCast→bD,ofNat_lt→sf,toNat_natCast→fp
open List renaming all_append→nI,all_eq_false→xy,all_eq_true→dE,any_cons→Ge,any_eq_false→xx,any_eq_true→eV,append_nil→cz,cons_append→dL,drop_eq_getElem_cons→bJ,drop_eq_nil_of_le→fH,eq_nil_iff_forall_not_mem→Al,eq_nil_of_length_eq_zero→cm,ext_getElem→Ak,findIdx?_eq_none_iff→pf,findIdx?_eq_some_iff_getElem→kK,getD→cx,getD_eq_getElem?_getD→fc,getElem?_append_left→bO,getElem?_append_right→cd,getElem?_drop→eN,getElem?_eq_getElem→bu,getElem?_eq_none→bU,getElem?_eq_some_iff→dr,getElem?_inj→QH,getElem?_map→cC,getElem?_of_mem→ig,getElem?_set_ne→bQ,getElem?_set_self→bT,getElem?_take→oD,getElem?_take_of_lt→cN,getElem_map→jT,getElem_mem→br,getElem_range→Ot,length→jJ,length_append→bp,length_cons→bI,length_drop→qi,length_map→bA,length_nil→bZ,length_pos_iff→gz,length_singleton→dW,length_take→cF,mapM_cons→DF,map_cons→bF,map_map→ep,map_take→Gc,mem_cons→bx,mem_cons_of_mem→jI,mem_map→bH,mem_of_getElem?→fA,mem_range→k9,mem_singleton→cU,mem_take_iff_getElem→jY,nil_append→jd,nodup_cons→cq,nodup_nil→oC,range→dF,sizeOf_lt_of_mem→KP,size_toArray→QG,sum_cons→bV,take_append_drop→cV,take_length→bz,take_succ_eq_append_getElem→k8
open Nat renaming add_assoc→fi,add_mul→dz,add_zero→iw,div_eq_of_lt→rn,div_lt_iff_lt_mul→K1,eq_zero_or_pos→xe,le_refl→bX,le_succ→uM,le_trans→bM,lor→jc,lt_or_ge→bR,mod_eq_of_lt→AH,mod_lt→QF,mul_add_div→sC,mul_add_mod→Dx,mul_comm→jb,mul_le_mul_right→dq,mul_one→p5,one_mul→p4,shiftLeft→eu,testBit_two_pow→Oo,zero_add→dY,zero_le→bw
open Ne renaming symm→dZ
open Option renaming bind_eq_some_iff→kE,isSome_iff_exists→eQ,isSome_none→n9,map_eq_some_iff→qh,map_some→cv
open Option.some renaming injEq→cw
open PUnit renaming unit→kD
open Prod.mk renaming injEq→gf
open SizeOf renaming sizeOf→pe
namespace Go.VC
section
variable [Inhabited pY]
open Go
section
variable {P:Program}{tt:TypeId->Option TI}{G:dH}{B:jH}{E:List RI}{Pp:fQ}{objs:List Ob}{w:World}{st:St}{a:Act}
variable {p:Array Oper}{d:D}{Q:Exit->Act->World->Prop}{r:Option Nat}
def ni(L:Nat):∀(r:List (Nat×Nat×Oper))(j:Nat)(o:Oper),(j,o)∈jh L r↔∃m,(j,m,o)∈r/\Au m L=true
 |[],j,o=>by simp[jh]
 |(i,m,x)::r,j,o=>by
  have c:=ni L r j o;simp only[jh];cases hm:Au m L with
  |true=>
   simp only[cond_true,bx,gf,c];constructor
   ·rintro(⟨rfl,rfl⟩|⟨m',h,b⟩)
    ·exact⟨m,.inl ⟨rfl,rfl,rfl⟩,hm⟩
    ·exact⟨m',.inr h,b⟩
   ·rintro⟨m',⟨rfl,rfl,rfl⟩|h,b⟩
    ·exact .inl ⟨rfl,rfl⟩
    ·exact .inr ⟨m',h,b⟩
  |false=>
   simp only[cond_false,bx,gf,c];constructor
   ·rintro⟨m',h,b⟩;exact⟨m',.inr h,b⟩
   ·rintro⟨m',⟨rfl,rfl,rfl⟩|h,b⟩
    ·rw[hm]at b;cases b
    ·exact⟨m',h,b⟩
def Dl(L i j:Nat):(jc L (eu 1 i)).testBit j=(L.testBit j||decide (i=j)):=by show (L ||| (1 <<< i)).testBit j=_;rw[Nat.testBit_or,Nat.shiftLeft_eq,p4,Oo]
def Bo(l:List Edge)(k:Nat):(tZ l).testBit k=l.any (λe=>oq e&&decide (e.on=k)):=by
 induction l with
 |nil=>simp[tZ]
 |cons e l b=>
  simp only[tZ,Ge];cases hb:oq e with
  |true=>simp only[cond_true,iA];show ((1 <<< e.on) ||| tZ l).testBit k=_;rw[Nat.testBit_or,Nat.shiftLeft_eq,p4,Oo,b]
  |false=>simpa using b
def E9(m L:Nat):Au m L=true↔∀k,m.testBit k=true->L.testBit k=true:=by
 unfold Au;constructor
 ·intro h k hk;have h:=cX h;have h2:(m &&& L).testBit k=true:=by show (Nat.land m L).testBit k=true;rw[h];exact hk
  rw[Nat.testBit_and]at h2;simp only[bn]at h2;exact h2.2
 ·intro h
  have:Nat.land m L=m:=by
   apply Nat.eq_of_testBit_eq;intro k;show (m &&& L).testBit k=_;rw[Nat.testBit_and];cases hm:m.testBit k with
   |false=>rfl
   |true=>rw[h k hm];rfl
  rw[this];exact jQ m
def mG(e:Edge):Region.binds .any e=oq e:=by unfold Region.binds oq;cases e.ground<;>rfl
structure nH (all:Array Oper) (rest:List (Nat×Nat×Oper)) (L:Nat) (listed:Array Bool):Prop where
 size:listed.size=all.size
 bit:∀i,i<all.size->listed.getD i true=L.testBit i
 low:∀i,L.testBit i=true->i<all.size
 mem:∀i m o,(i,m,o)∈rest↔all[i]? =some o/\L.testBit i=false/\m=tZ o.after.toList
 nodup:(rest.map (·.1)).Nodup
 cl:∀j o,all[j]? =some o->L.testBit j=true->∀e∈o.after,Region.binds .any e=true->L.testBit e.on=true
def nH.get{all:Array Oper}{rest:List (Nat×Nat×Oper)}{L:Nat}{listed:Array Bool}(h:nH all rest L listed)(i:Nat):listed.getD i false=L.testBit i:=by
 by_cases b:i<all.size
 ·have:=h.bit i b;rw[cO]at this ⊢;have hs:i<listed.size:=by rw[h.size];exact b
  simp[hs]at this ⊢;exact this
 ·have:L.testBit i=false:=by
   cases hm:L.testBit i with
   |false=>rfl
   |true=>exact absurd (h.low i hm) b
  rw[this,cO,cR (by rw[h.size];omega)];rfl
def oM{all:Array Oper}{rest:List (Nat×Nat×Oper)}{L:Nat}{listed:Array Bool}(h:nH all rest L listed)(j:Nat):j∈Region.ready .any all listed↔∃o,(j,o)∈jh L rest:=by
 rw[mem_ready];constructor
 ·rintro⟨h1,o,b,h2⟩;have c:j<all.size:=(gJ.1 b).1;refine⟨o,(ni L rest j o).2 ⟨_,(h.mem j _ o).2 ⟨b,by rw[<- h.bit j c];exact h1,rfl⟩,?_⟩⟩;rw[E9];intro k hk;rw[Bo,eV]at hk;obtain⟨e,he,hb⟩:=hk;simp only[bn,decide_eq_true_eq]at hb;have:=h2 e (yU he) (by rw[mG];exact hb.1);rw[h.get,hb.2]at this;exact this
 ·rintro⟨o,b⟩;obtain⟨m,h1,h2⟩:=(ni L rest j o).1 b;obtain⟨h3,h4,rfl⟩:=(h.mem j m o).1 h1;have c:j<all.size:=(gJ.1 h3).1;refine⟨by rw[h.bit j c];exact h4,o,h3,?_⟩;intro e he hb;rw[h.get];rw[E9]at h2;refine h2 e.on ?_;rw[Bo,eV];rw[mG]at hb;exact⟨e,yU he,by simp[hb]⟩
def Bn(i:Nat):∀(r:List (Nat×Nat×Oper)),(r.map (·.1)).Nodup->∀j m o,((j,m,o)∈iF i r↔(j,m,o)∈r/\j≠i)
 |[],_,j,m,o=>by simp[iF]
 |(k,m',x)::r,e,j,m,o=>by
  simp only[bF,cq]at e;have f:=Bn i r e.2 j m o;simp only[iF];cases hb:nb k i with
  |true=>
   have:=cX hb;subst this;simp only[cond_true,bx,gf];constructor
   ·intro h;refine⟨.inr h,?_⟩;rintro rfl;exact e.1 (bH.2 ⟨_,h,rfl⟩)
   ·rintro⟨⟨rfl,_⟩|h,b⟩
    ·exact absurd rfl b
    ·exact h
  |false=>
   have c:k≠i:=by rintro rfl;rw[jQ]at hb;cases hb
   simp only[cond_false,bx,gf,f];constructor
   ·rintro(⟨rfl,rfl,rfl⟩|⟨h,b⟩)
    ·exact⟨.inl ⟨rfl,rfl,rfl⟩,c⟩
    ·exact⟨.inr h,b⟩
   ·rintro⟨⟨rfl,rfl,rfl⟩|h,b⟩
    ·exact .inl ⟨rfl,rfl,rfl⟩
    ·exact .inr ⟨h,b⟩
def BN(i:Nat):∀(r:List (Nat×Nat×Oper)),List.Sublist ((iF i r).map (·.1)) (r.map (·.1))
 |[]=>by simp[iF]
 |(k,m',x)::r=>by
  simp only[iF];cases nb k i with
  |true=>simp
  |false=>simpa using BN i r
def nH.push{all:Array Oper}{rest:List (Nat×Nat×Oper)}{L:Nat}{listed:Array Bool}(h:nH all rest L listed){i:Nat}(l:i<all.size)(iK:i∈Region.ready .any all listed):nH all (iF i rest) (jc L (eu 1 i)) (listed.setIfInBounds i true):=by
 refine⟨by simp[h.size],?_,?_,?_,(BN i rest).nodup h.nodup,?_⟩
 ·intro j b;rw[Dl];by_cases c:i=j
  ·subst c;have:i<listed.size:=by rw[h.size];exact l
   simp[this]
  ·rw[getD_set_ne true c,h.bit j b];simp[c]
 ·intro j b;rw[Dl]at b;simp only[fS,decide_eq_true_eq]at b;rcases b with b|rfl
  ·exact h.low j b
  ·exact l
 ·intro j m o;rw[Bn i rest h.nodup,h.mem,Dl];constructor
  ·rintro⟨⟨h1,h2,h3⟩,n⟩;exact⟨h1,by simp[h2];omega,h3⟩
  ·rintro⟨h1,h2,h3⟩;simp only[K5,decide_eq_false_iff_not]at h2;exact⟨⟨h1,h2.1,h3⟩,yO⟩
 ·intro j o k b e he hb;rw[Dl]at b ⊢;simp only[fS,decide_eq_true_eq]at b ⊢;left;rcases b with b|rfl
  ·exact h.cl j o k b e he hb
  ·obtain⟨_,o2,g,f⟩:=mem_ready.1 iK;rw[k]at g;cases g;rw[<- h.get];exact f e he hb
def vt:∀(l:List Oper)(k:Nat)(i m:Nat)(o:Oper),(i,m,o)∈nS k l↔∃j,l[j]? =some o/\i=k+j/\m=tZ o.after.toList
 |[],k,i,m,o=>by simp[nS]
 |x::l,k,i,m,o=>by
  simp only[nS,bx,gf,vt l (k+1) i m o];constructor
  ·rintro(⟨rfl,rfl,rfl⟩|⟨j,h1,h2,h3⟩)
   ·exact⟨0,rfl,yO,rfl⟩
   ·exact⟨j+1,yU h1,yO,h3⟩
  ·rintro⟨j,h1,h2,h3⟩;cases j with
   |zero=>simp at h1;subst h1;exact .inl ⟨yO,h3,rfl⟩
   |succ j=>exact .inr ⟨j,yU h1,yO,h3⟩
def A8:∀(l:List Oper)(k:Nat) i,i∈(nS k l).map (·.1)->k<=i
 |[],k,i,h=>by simp[nS]at h
 |x::l,k,i,h=>by
  simp only[nS,bF,bx]at h;rcases h with rfl|h
  ·exact bX _
  ·have:=A8 l (k+1) i h;omega
def wq:∀(l:List Oper)(k:Nat),((nS k l).map (·.1)).Nodup
 |[],_=>by simp[nS]
 |x::l,k=>by simp only[nS,bF,cq];refine⟨λh=>?_,wq l (k+1)⟩;have:=A8 l (k+1) k h;omega
def nH.start(all:Array Oper):nH all (nS 0 all.toList) 0 (hY all.size false):=by
 refine⟨yS,λi b=>by simp[b],λi b=>yE b,?_,wq _ _,λj o e c=>yE c⟩;intro i m o;rw[vt];constructor
 ·rintro⟨j,h1,h2,h3⟩;have:i=j:=yO;subst this;exact⟨yU h1,yS,h3⟩
 ·rintro⟨h1,_,h3⟩;exact⟨i,yU h1,yO,h3⟩
def wI{L:Nat}:∀{r:List (Nat×Nat×Oper)}{i:Nat}{o:Oper},ov G L r=some (i,o)->(i,o)∈jh L r/\ud G o=true
 |[],i,o,h=>by simp[ov]at h
 |(k,m,x)::r,i,o,h=>by
  simp only[ov]at h;simp only[jh];cases hf:(ud G x&&Au m L)with
  |true=>rw[hf]at h;simp at h;obtain⟨rfl,rfl⟩:=h;simp only[bn]at hf;rw[hf.2];exact⟨yS,hf.1⟩
  |false=>
   rw[hf]at h;obtain⟨h1,h2⟩:=wI h;refine⟨?_,h2⟩;cases Au m L with
   |true=>simp[h1]
   |false=>simpa using h1
def zY{f:Nat->Oper->Prop}:∀{l:List (Nat×Oper)}{i:Nat}{o:Oper},FQ f l->(i,o)∈l->f i o
 |[],_,_,_,h=>yE h
 |[x],i,o,h,hm=>by simp at hm;subst hm;exact h
 |x::y::l,i,o,h,hm=>by
  rcases bx.1 hm with rfl|hm
  ·exact h.1
  ·exact zY h.2 hm
def wv{i:Nat}{oi:Oper}{Z:List Nat}:∀{l:List Oper}{k:Nat},tU G p i oi Z k l=true->∀(j:Nat) oj,l[j]? =some oj->
 (i=k+j->∀d,oi.dst=some d->d∉oi.looksAt p)/\(i≠k+j->eI (k+j) Z=true\/Mo (k+j) oi=true\/(Oper.apart p oi oj=true/\jU G oj.op=true))
 |[],_,_,j,oj,h=>yE h
 |x::l,k,h,j,oj,b=>by
  simp only[tU,bn]at h;obtain⟨h1,h2⟩:=h;cases j with
  |succ j=>
   have:=wv h2 j oj (yU b)
   rwa [show k+1+j=k+(j+1)by omega]at this
  |zero=>
   simp at b;subst b;refine⟨?_,?_⟩
   ·intro c d e f;have:nb i k=true:=by rw[Q2];omega
    rw[this,e]at h1;simp only[cond_true]at h1;rw[(kW _ _).2 f]at h1;cases h1
   ·intro c
    have:nb i k=false:=by
     cases hb:nb i k with
     |false=>rfl
     |true=>exact absurd (cX hb) yO
    rw[this]at h1;simp only[cond_false]at h1;cases ha:eI k Z with
    |true=>exact .inl (yU ha)
    |false=>
     rw[ha]at h1;simp only[cond_false]at h1;cases hb:Mo k oi with
     |true=>exact .inr (.inl (yU hb))
     |false=>rw[hb]at h1;simp only[cond_false,bn]at h1;exact .inr (.inr h1)
def pG{all:List Oper}:∀{l:List Oper}{k:Nat},s7 G p all k l=true->∀(j:Nat) oj,l[j]? =some oj->
 MI oj.op=false/\(ud G oj=true->tU G p (k+j) oj (behind (k+j) 0 [] all) 0 all=true)
 |[],_,_,j,oj,h=>yE h
 |x::l,k,h,j,oj,b=>by
  simp only[s7,bn]at h;obtain⟨h1,h2⟩:=h;cases j with
  |succ j=>
   have:=pG h2 j oj (yU b)
   rwa [show k+1+j=k+(j+1)by omega]at this
  |zero=>
   simp at b;subst b;cases hs:MI x.op with
   |true=>rw[hs]at h1;cases h1
   |false=>refine⟨rfl,λhf=>?_⟩;rw[hs,hf]at h1;exact h1
def Mn{i:Nat}{o:Oper}:Mo i o=true↔∃e∈o.after,Region.binds .any e=true/\e.on=i:=by
 unfold Mo;rw[uD,eV];constructor
 ·rintro⟨e,he,h⟩;simp only[bn]at h;exact⟨e,yU he,by rw[mG];exact h.1,cX h.2⟩
 ·rintro⟨e,he,h1,h2⟩;exact⟨e,yU he,by rw[mG]at h1;simp[h1,h2]⟩
def zU{i:Nat}:∀(l:List Oper)(k:Nat)(b:List Nat),∀z∈b,z∈behind i k b l
 |[],_,b,z,hz=>hz
 |o::l,k,b,z,hz=>by
  simp only[behind];refine zU l (k+1) _ z ?_;cases qg (λe=>oq e&&(bif nb e.on i then true else eI e.on b)) o.after.toList with
  |true=>exact jI _ hz
  |false=>exact hz
def wO{i:Nat}{all:List Oper}:∀(l:List Oper)(k:Nat)(b:List Nat),(∀j,l[j]? =all[k+j]?)->
 (∀z∈b,∀c,all[z]? =some c->∃e∈c.after,Region.binds .any e=true/\(e.on=i\/e.on∈behind i k b l))->
 ∀z∈behind i k b l,∀c,all[z]? =some c->∃e∈c.after,Region.binds .any e=true/\(e.on=i\/e.on∈behind i k b l)
 |[],k,b,hl,ha,z,hz,c,f=>ha z hz c f
 |o::l,k,b,hl,ha,z,hz,c,f=>by
  simp only[behind]at ha hz ⊢;refine wO l (k+1) _ (λj=>by have:=hl (j+1);rw[show k+1+j=k+(j+1)by omega];simpa using this) ?_ z hz c f;cases hb:qg (λe=>oq e&&(bif nb e.on i then true else eI e.on b)) o.after.toList with
  |false=>rw[hb]at ha;exact ha
  |true=>
   rw[hb]at ha;intro z hz c f;rcases bx.1 hz with rfl|hz
   ·have h0:=hl 0;rw[iw,f]at h0;simp at h0;subst h0;rw[uD,eV]at hb;obtain⟨e,he,hb⟩:=hb;simp only[bn]at hb;refine⟨e,yU he,by rw[mG];exact hb.1,?_⟩;cases g:nb e.on i with
    |true=>exact .inl (cX g)
    |false=>rw[g]at hb;exact .inr (zU _ _ _ _ (jI _ ((kW _ _).1 hb.2)))
   ·exact ha z hz c f
def BV{i:Nat}{all:Array Oper}{rest:List (Nat×Nat×Oper)}{L:Nat}{listed:Array Bool}(h:nH all rest L listed)(c:L.testBit i=false):∀(l:List Oper)(k:Nat)(b:List Nat),(∀j,l[j]? =all[k+j]?)->(∀z∈b,L.testBit z=false)->∀z∈behind i k b l,L.testBit z=false
 |[],k,b,hl,ha,z,hz=>ha z hz
 |o::l,k,b,hl,ha,z,hz=>by
  simp only[behind]at hz;refine BV h c l (k+1) _ (λj=>by have:=hl (j+1);rw[show k+1+j=k+(j+1)by omega];simpa using this) ?_ z hz;cases hb:qg (λe=>oq e&&(bif nb e.on i then true else eI e.on b)) o.after.toList with
  |false=>exact ha
  |true=>
   intro z hz;rcases bx.1 hz with rfl|hz
   ·cases g:L.testBit z with
    |false=>rfl
    |true=>
     exfalso;rw[uD,eV]at hb;obtain⟨e,he,hb⟩:=hb;simp only[bn]at hb;have h0:all[z]? =some o:=by have:=hl 0;simpa using this.symm
     have h1:=h.cl z o h0 g e (yU he) (by rw[mG];exact hb.1);cases f:nb e.on i with
     |true=>rw[cX f,c]at h1;cases h1
     |false=>rw[f]at hb;rw[ha _ ((kW _ _).1 hb.2)]at h1;cases h1
   ·exact ha z hz
def Ag(tt:TypeId->Option TI)(E:List RI)(Pp:fQ)(objs:List Ob)(w:World)(b:World):Prop:=∀ad v,oy tt E Pp objs w ad v->pc b ad=some v
def Ag.self(b:WR tt E Pp objs w):Ag tt E Pp objs w w:=λ_ _ h=>h.cell b
def py:∀(l:List Ob)(i:Nat),(kN l)[i]? =(l[i]?).map λo=>match o with| .map _ _ _=>.dead| .iter _ _=>.dead| .diter _ _ _=>.dead| .loop _ _ _ _ _ _=>.dead|o=>o
 |[],i=>by simp[kN]
 |o::l,i=>by cases o<;>cases i<;>simp[kN,py l]
def G4{i:Nat}{cs:List PV}(h:(kN objs)[i]? =some (.box cs)):objs[i]? =some (.box cs):=by
 rw[py]at h;cases b:objs[i]? with
 |none=>rw[b]at h;simp at h
 |some o=>rw[b]at h;cases o<;>simp at h;rw[h]
def sU{i:Nat}{e:TypeId}{wr:Bool}(h:(kN objs)[i]? =some (.row e d wr)):objs[i]? =some (.row e d wr):=by
 rw[py]at h;cases b:objs[i]? with
 |none=>rw[b]at h;simp at h
 |some o=>rw[b]at h;cases o<;>simp at h;obtain⟨rfl,rfl,rfl⟩:=h;rfl
def G3{i:Nat}{k:CK}{e:TypeId}(h:(kN objs)[i]? =some (.map k e d)):False:=by
 rw[py]at h;cases b:objs[i]? with
 |none=>rw[b]at h;simp at h
 |some o=>rw[b]at h;cases o<;>simp at h
def WR.Yb(l:WR tt E Pp objs w):RW tt E Pp (kN objs) (Ag tt E Pp objs w):=by
 refine⟨?_,?_,?_,?_,?_,?_⟩
 ·intro q h2 ad v u;exact h2 ad v (.inl u)
 ·intro i cs b f k;have f:=G4 f;obtain⟨ri,c,h⟩:=l.ob i _ f rfl;rw[k]at c;cases c;obtain⟨vs,T,hb,m,_⟩:=h;refine⟨vs,m,λq h2 j v n=>by rw[<- px];exact h2 _ _ (.inr ⟨by rw[eE hb];exact n,i,.inl ⟨cs,f,k⟩⟩)⟩
 ·intro i e d wr f k;have f:=sU f;obtain⟨ri,c,h⟩:=l.ob i _ f rfl;rw[k]at c;cases c;exact h
 ·intro i e d wr g o len cap f k;have f:=sU f;obtain⟨ri,c,h⟩:=l.ob i _ f rfl;rw[k]at c;cases c;obtain⟨vs,T,rows,hb,t,hl,s,fW,dN,_,_⟩:=h;exact⟨vs,rows,t,hl,dN,λq h2 j v n _ dA=>by rw[<- px];exact h2 _ _ (.inr ⟨by rw[eE hb];exact n,i,.inr ⟨e,d,wr,o,len,cap,f,k,dA⟩⟩)⟩
 ·intro i e d g o len cap f k;have f:=sU f;obtain⟨ri,c,h⟩:=l.ob i _ f rfl;rw[k]at c;cases c;exact OR.nN h
 ·intro i kc e d b bs cl f;exact(G3 f).elim
def Gb(G:dH)(E:List RI)(Pp:fQ)(objs:List Ob)(w:World)(b:World):Prop:=match G.GZ with
 |true=>∀ad v,Pp ad v->pc b ad=some v
 |false=>Ag G.tt E Pp objs w b
def Gb.self(b:WR G.tt E Pp objs w):Gb G E Pp objs w w:=by
 unfold Gb;split
 ·exactλad v h=>b.pi _ _ h
 ·exact Ag.self b
def mK:∀(l:List Ob)(i:Nat)(o:Ob),(BR l)[i]? =some o->o= .dead
 |[],i,o,h=>by simp[BR]at h
 |x::l,0,o,h=>by simp[BR]at h;exact h.symm
 |x::l,i+1,o,h=>by simp[BR]at h;exact mK l i o h
def WR.Uo(f:WR G.tt E Pp objs w):RW G.tt E Pp (AM G objs) (Gb G E Pp objs w):=by
 unfold AM Gb;cases G.GZ with
 |true=>
  refine⟨λh h2=>h2,?_,?_,?_,?_,?_⟩
  ·intro i cs b c;cases mK _ _ _ c
  ·intro i e d wr c;cases mK _ _ _ c
  ·intro i e d wr g o len cap c;cases mK _ _ _ c
  ·intro i e d g o len cap c;cases mK _ _ _ c
  ·intro i kc e d b bs cl c;cases mK _ _ _ c
 |false=>exact f.Yb
def M8{i:Nat}{K:Act->World->Prop}{a:Act}{w:World}(h:wpOpIn (oX r) 0 P p Q i K a w):(∃e a w,Q e a w)\/∃a w,K a w:=by
 unfold wpOpIn at h;split at h
 ·exact .inr ⟨_,_,h⟩
 ·split at h
  ·rename_i o j g;have h:=h.2;generalize (o.semAt (oX r).round a.eval).run P w=x at h;cases x with
   |ok x w'=>
    cases x with
    |value v=>exact .inr ⟨_,_,h⟩
    |skip=>exact .inr ⟨_,_,h⟩
    |defer d=>exact .inr ⟨_,_,h⟩
    |enter f args=>
     obtain⟨e,b,_,he,_⟩:=h.2.2 [] (x9 _);cases e with
     |returned v=>exact .inr ⟨_,_,he⟩
     |panicked c=>exact .inl ⟨_,_,_,he⟩
     |outgrown=>obtain⟨a,w,he⟩:=he;exact .inl ⟨_,_,_,he⟩
    |row row args=>obtain⟨v,b,he,_⟩:=h.2 default [] (x9 _);exact .inr ⟨_,_,he⟩
    |round l f tmps assign body=>
     obtain⟨e,b,he,_⟩:=h.2.2 default [] (x9 _);cases e with
     |returned v=>exact .inr ⟨_,_,he⟩
     |panicked c=>exact .inl ⟨_,_,_,he⟩
     |outgrown=>obtain⟨a,w,he⟩:=he;exact .inl ⟨_,_,_,he⟩
    |_=>exact h.elim
   |halt s w'=>
    cases s with
    |panic v=>exact .inl ⟨_,_,_,h⟩
    |_=>exact h.elim
  ·exact .inr ⟨_,_,h.2⟩
def C6{b:Region.Mode}:∀(k:Nat)(listed:Array Bool)(a:Act)(w:World),wpAnyIn (oX r) 0 P b p Q k listed a w->∃e a w,Q e a w
 |0,_,_,_,h=>⟨_,_,_,h.2⟩
 |k+1,listed,a,w,h=>by
  cases hr:Region.ready b p listed with
  |nil=>exact⟨_,_,_,h.1 hr⟩
  |cons i l=>
   rcases M8 (h.2 i (by rw[hr];simp))with h1|⟨c,w',h1⟩
   ·exact h1
   ·exact C6 k _ c w' h1
def gW.pick{tt:TypeId->Option TI}{N n0:Nat}{ps:List Nat}(hb:B.E0.length=n0)(h:gW tt N B E Pp st a w)(dJ:(jD ps&&xF n0 0 ps)=true):gW tt N B (ps.map λr=>E.getD r .row0) Pp (vu ps st) a w:=by
 simp only[bn]at dJ;have gx:=oQ dJ.1;have e:=Ia dJ.2;obtain⟨s,o⟩:=st;refine⟨h.wr.pick gx,?_,h.size,h.defers,?_,h.sT,h.fr,h.jV,?_⟩
 ·intro t;show VR tt _ Pp _ (look (A9 ps s) t);rw[yr];exact tT (λ_ _ _=>pw) 8 _ _ (h.fJ t)
 ·intro i x j;have m:i<n0:=by rw[<- hb];exact(dr.1 j).1
  have:=e i m;rw[dY]at this;rcases h.pre i x j with h1|⟨b,n,c,n',l,rfl,h1⟩
  ·exact .inl (qH this h1)
  ·exact .inr ⟨b,n,c,n',l,rfl,qH this h1⟩
 ·intro i q ri b k hl g f;obtain⟨r,u,a1,a2,a3,a4⟩:=qG h.wr k hl g;exact h.fresh r u ri b a2 a3 a4 f
def gW.same{b c:St}(hB:B.E0.length=G.n0)(h:gW G.tt G.n B E Pp c a w)(hs:vo G.n0 b c):∃E',gW G.tt G.n B E' Pp b a w:=by
 obtain⟨f,h3,hl,e⟩:=hs;have key:∀{E'},gW G.tt G.n B E' Pp f a w->gW G.tt G.n B E' Pp b a w:=λh=>⟨by rw[e];exact h.wr,λt=>by rw[hl];exact h.fJ t,h.size,h.defers,h.pre,h.sT,h.fr,h.jV,by rw[e];exact h.fresh⟩;rcases h3 with rfl|⟨ps,dJ,rfl⟩
 ·exact⟨_,key h⟩
 ·exact⟨_,key (h.pick hB dJ)⟩
def Qf{r0:Option Nat}(am:ez P G.tt)(hB:B.E0.length=G.n0){all:Array Oper}(dJ:s7 G all all.toList 0 all.toList=true){Q:St->Prop}{Q':Exit->Act->World->Prop}(hQ:∀E Pp st a w,gW G.tt G.n B E Pp st a w->Q st->Q' .normal a w)(I:∀c a w,¬Q' (.panic c) a w):
 ∀(n:Nat)(rest:List (Nat×Nat×Oper))(L:Nat)(listed:Array Bool)(st:St)(E:List RI)(Pp:fQ)(a:Act)(w:World),nH all rest L listed->gW G.tt G.n B E Pp st a w->nE dS G (lU P G.tt) all.toList n rest L st Q->
  iH r0 P all (λi=>match all[i]? with|some o=> !jU G o.op|none=>false) Q' (Gb G E Pp st.o w) n listed a w:=by
 have ak:∀(j:Nat)(o:Oper) cs b,all[j]? =some o->o.op≠ .select cs b:=by intro j o cs b m he;have:=(pG dJ j o (yU m)).1;rw[he]at this;cases this
 have gx:∀(j:Nat)(o:Oper) c,all[j]? =some o->o.op≠ .defer c:=by intro j o c m he;have:=(pG dJ j o (yU m)).1;rw[he]at this;cases this
 intro n;induction n generalizing Q Q' with
 |zero=>
  intro rest L listed st E Pp a w hl h hr;simp only[nE]at hr;split at hr
  ·rename_i iK;refine⟨Gb.self h.wr,?_,hQ _ _ _ _ _ h hr⟩;apply Al.2;intro j J;obtain⟨o,m⟩:=(oM hl j).1 J;rw[iK]at m;simp at m
  ·exact hr.elim
 |succ n ih=>
  intro rest L listed st E Pp a w hl h hr;simp only[nE]at hr;split at hr
  ·
    rename_i i' o hf;obtain⟨U,x⟩:=wI hf;have q:=(oM hl i').2 ⟨o,U⟩;obtain⟨mk,M,_⟩:=(ni L rest i' o).1 U;have h1:all.toList[i']? =some o:=by simpa using((hl.mem i' mk o).1 M).1
    have k:all[i']? =some o:=yU h1;have fW:i'<all.size:=(gJ.1 k).1;have hp:=(pG dJ i' o h1).2 x;rw[dY]at hp;have X:=wv hp;have ac:gi (G.eh,G.live) o.op=true:=(By x).2;have x:=MO x
    have ac:jU G o.op=true:=by
     unfold jU;split
     ·rfl
     ·exact ac
    have hu:L.testBit i'=false:=((hl.mem i' mk o).1 M).2.1;have aG:∀z∈behind i' 0 [] all.toList,listed.getD z false=false:=λz hz=>by rw[hl.get];exact BV hl hu all.toList 0 [] (λj=>yS) yS z hz
    have aB:∀z∈behind i' 0 [] all.toList,∀oz,all[z]? =some oz->∃e∈oz.after,Region.binds .any e=true/\(e.on=i'\/e.on∈behind i' 0 [] all.toList):=λz hz oz m=>wO (all:=all.toList) all.toList 0 [] (λj=>yS) yS z hz oz (yU m)
    have A:∀j oj,all[j]? =some oj->j≠i'->listed.getD j true=false->j∉behind i' 0 [] all.toList->o.apart all oj=true/\(match all[j]? with|some o=> !jU G o.op|none=>false)=false:=by
     intro j oj J aM N aw;have S:=(X j oj (yU J)).2 yO;rw[dY]at S;rcases S with S|S|⟨aD,aE⟩
     ·exact absurd ((kW _ _).1 S) aw
     ·obtain⟨e,he,hb,ay⟩:=Mn.1 S;obtain⟨_,o2,ap,C⟩:=mem_ready.1 q;rw[k]at ap;cases ap;have:=C e he hb;rw[ay]at this;exfalso;have az:j<listed.size:=by rw[hl.size];exact(gJ.1 J).1
      rw[cO]at this N;simp[az]at this N;rw[this]at N;cases N
     ·exact⟨aD,by rw[J];simp[aE]⟩
    have H:=(X i' o h1).1 yO;have hD:(match all[i']? with|some o=> !jU G o.op|none=>false)=false:=by rw[k];simp[ac]
    have af:=h.wr.Uo (G:=G)
    have go:∀v f,gW G.tt G.n B E Pp f (a.put o.dst v) w->f.o=st.o->nE dS G (lU P G.tt) all.toList n (iF i' rest) (jc L (eu 1 i')) f Q->uF P all (Gb G E Pp st.o w) o v a->
     iH r0 P all (λi=>match all[i]? with|some o=> !jU G o.op|none=>false) Q' (Gb G E Pp st.o w) (n+1) listed a w:=by
     intro v f h5 h6 h7 h8;have R:=ih hQ I _ _ (listed.setIfInBounds i' true) f E Pp _ w (hl.push fW q) h5 h7;rw[h6]at R;exact B7 k ak gx I hD H (behind i' 0 [] all.toList) aB n listed a w aG A q h8 (Gb.self h.wr) R
    have run:∀g,gW G.tt G.n B E Pp g a w->g.o=st.o->cH dS G.tt o.op o.type g.s (AM G g.o) (λv=>sR G o.dst v g (λl=>nE dS G (lU P G.tt) all.toList n (iF i' rest) (jc L (eu 1 i')) l Q))->Region.wanted o (yielded all a.tmps)=true->
     iH r0 P all (λi=>match all[i]? with|some o=> !jU G o.op|none=>false) Q' (Gb G E Pp st.o w) (n+1) listed a w:=by
     intro g h5 h6 h7 h8;rw[h6]at h7;obtain⟨v,pv,al,hv,hK⟩:=A7 am af h5.fJ h7;obtain⟨f,Y,q2,Z⟩:=tR h5.size h5.defers hv h5.fJ h5.Ih hK;exact go v f Y (Z.trans h6) q2 (.inl ⟨h8,al⟩)
    have skip:∀g,gW G.tt G.n B E Pp g a w->g.o=st.o->sR G o.dst (.tup []) g (λl=>nE dS G (lU P G.tt) all.toList n (iF i' rest) (jc L (eu 1 i')) l Q)->Region.wanted o (yielded all a.tmps)=false->
     iH r0 P all (λi=>match all[i]? with|some o=> !jU G o.op|none=>false) Q' (Gb G E Pp st.o w) (n+1) listed a w:=by
     intro g h5 h6 h7 h8;obtain⟨f,Y,q2,Z⟩:=tR (v:=undef) h5.size h5.defers (.tup [] [] .nil) h5.fJ h5.Ih h7;exact go undef f Y (Z.trans h6) q2 (.inr ⟨h8,rfl⟩)
    unfold guarded at hr;split at hr
    ·rename_i y;exact run st h rfl hr (by unfold Region.wanted;rw[y])
    ·rename_i j t y;split at hr
     ·exact hr.elim
     rename_i oj J;rw[yI]at J;have aa:all[j]? =some oj:=yU J;split at hr
     ·exact hr.elim
     rename_i dj ae;split at hr
     ·rename_i b s;have mi:=rr y aa ae h s (.inl rfl);cases hb:KB b t with
      |true=>rw[hb]at hr mi;exact run st h rfl hr mi
      |false=>rw[hb]at hr mi;exact skip st h rfl hr mi
     ·rename_i b s;have mi:=rr y aa ae h s (.inr rfl);cases hb:KB b t with
      |true=>have F:=zV.1 hb;rw[hb]at mi;exact run _ (qy h s F) rfl (hr.1 F) mi
      |false=>
       have F:b=fP t:=by clear hr A X H hD run skip go ih;rw[Ji];cases b<;>cases t<;>first|rfl|(simp[KB]at hb)
       rw[hb]at mi;exact skip _ (qy h s F) rfl (hr.2 F) mi
     ·rename_i s;exact skip st h rfl hr (Ca y aa ae h s)
     ·exact hr.elim
  ·split at hr
   ·rename_i iK;have aj:Region.ready .any all listed=[]:=by apply Al.2;intro j J;obtain⟨o,m⟩:=(oM hl j).1 J;rw[iK]at m;simp at m
    exact⟨Gb.self h.wr,λ_=>hQ _ _ _ _ _ h hr,λi O=>by rw[aj]at O;cases O⟩
   ·
    rename_i r rs iK
    have step:∀{Q1:St->Prop}{Q1':Exit->Act->World->Prop},(∀E Pp st a w,gW G.tt G.n B E Pp st a w->Q1 st->Q1' .normal a w)->(∀c a w,¬Q1' (.panic c) a w)->∀i' o,i'∈Region.ready .any all listed->all[i']? =some o->
     guarded G all.toList o st (λst K=>eB dS G (lU P G.tt) o st K) (λl=>nE dS G (lU P G.tt) all.toList n (iF i' rest) (jc L (eu 1 i')) l Q1)->
     wpOpIn (oX r0) 0 P all Q1' i' (λa' w'=>if(match all[i']? with|some o=> !jU G o.op|none=>false)=true then wpAnyIn (oX r0) 0 P .any all Q1' n (listed.setIfInBounds i' true) a' w' else iH r0 P all (λi=>match all[i]? with|some o=> !jU G o.op|none=>false) Q1' (Gb G E Pp st.o w) n (listed.setIfInBounds i' true) a' w') a w:=by
     intro Q1 Q1' ai T i' o O k S;have fW:i'<all.size:=(gJ.1 k).1;refine zt hB k ?_ ?_ h S
     ·intro g h5 h6 hc _;refine Oper.wpIn_mono ?_ (DZ am hB h5.Ih h5.fJ hc);rintro a' w' ⟨l,E',Pp',v,pv,rfl,hv,hs,hw,hK,hH,hM⟩;obtain⟨f,Y,q2,Z⟩:=tR h5.size h5.defers hv hs hw hK;have R:=ih ai T _ _ (listed.setIfInBounds i' true) f E' Pp' _ w' (hl.push fW O) Y q2;simp only[k];cases hq:jU G o.op with
      |false=>simp only[tn,if_true];exact R.any
      |true=>
       simp only[Gf,cA,if_false];refine R.mono (λw2 h2=>?_);unfold Gb at h2 ⊢;unfold jU at hq;cases an:G.GZ with
       |true=>rw[an]at h2;exactλad u hu=>h2 ad u (hM ad u hu)
       |false=>rw[an]at h2 hq;intro ad u hu;refine h2 ad u ?_;rw[Z];rw[<- h6]at hu;exact hH hq ad u hu
     ·intro f Y q2 _ Z;have R:=ih ai T _ _ (listed.setIfInBounds i' true) f E Pp _ w (hl.push fW O) Y q2;rw[Z]at R;simp only[k];cases hq:jU G o.op with
      |false=>simp only[tn,if_true];exact R.any
      |true=>simp only[Gf,cA,if_false];exact R
    have V:∀i' o,(i',o)∈jh L rest->i'∈Region.ready .any all listed/\all[i']? =some o:=by intro i' o m;obtain⟨mk,M,_⟩:=(ni L rest i' o).1 m;exact⟨(oM hl i').2 ⟨o,m⟩,((hl.mem i' mk o).1 M).1⟩
    refine⟨Gb.self h.wr,λh0=>?_,λi' O=>?_⟩
    ·exfalso;have:=(V r.1 r.2 (by rw[iK];simp)).1;rw[h0]at this;cases this
    ·obtain⟨o,m⟩:=(oM hl i').1 O;have k:=(V i' o m).2;rw[iK]at m;split at hr
     ·obtain⟨ao,W⟩:=V r.1 r.2 (by rw[iK];simp);rcases bx.1 m with rfl|aA
      ·exact step (Q1':=Q') (λE Pp st a w h1 h2=>hQ E Pp st a w h1 h2.2) I _ _ ao W hr
      ·
       have aH:=step (Q1':=λe _ _=>e= .normal/\∃s1,FQ (λi o=>guarded G all.toList o st (λst K=>eB dS G (lU P G.tt) o st K) λl=>nE dS G (lU P G.tt) all.toList n (iF i rest) (jc L (eu 1 i)) l λs2=>vo G.n0 s1 s2) rs/\Q s1)
        (λE Pp st a w h1 h2=>⟨rfl,st,h2⟩) (λc a w h=>yC h.1) _ _ ao W hr
       have aF:∃s1,FQ (λi o=>guarded G all.toList o st (λst K=>eB dS G (lU P G.tt) o st K) λl=>nE dS G (lU P G.tt) all.toList n (iF i rest) (jc L (eu 1 i)) l λs2=>vo G.n0 s1 s2) rs/\Q s1:=by
        rcases M8 aH with⟨_,_,_,h1⟩|⟨a',w',h1⟩
        ·exact h1.2
        ·simp only[W]at h1;split at h1
         ·obtain⟨_,_,_,h2⟩:=C6 _ _ _ _ h1;exact h2.2
         ·obtain⟨_,_,_,h2⟩:=C6 _ _ _ _ h1.any;exact h2.2
       obtain⟨s1,C,ax⟩:=aF;exact step (Q1':=Q') (λE Pp st a w h1 h2=>(h1.same hB h2).elim λE' h3=>hQ E' Pp s1 a w h3 ax) I _ _ O k (zY C aA)
     ·exact step hQ I _ _ O k (zY hr m)
end
end
section
variable [Inhabited pY]
open Go
section
variable {P:Program}{G:dH}{B:jH}{E:List RI}{Pp:fQ}{w:World}{st:St}{a:Act}
variable {fn:Func}{c:Code}{args:List PV}{f:FuncId}{K:PV->List Ob->Prop}{tt:TypeId->Option TI}{r:Option Nat}{N n0:Nat}{LP:Code->St->(Ex->St->Prop)->Prop}{vals:List Value}{objs:List Ob}{fin:St->Prop}
def sB.xl{st:St}{Q:Ex->St->Prop}
 (h:∀B E Pp a w,B.E0.length=n0->gW tt N B E Pp st a w->c.wpIn (oX r) 0 P (λe i w'=>∃g b E' Pp',uq e g/\gW tt N B E' Pp' b i w'/\Q g b) a w):sB P tt N n0 r c st Q:=by
 intro B E Pp a w hb hs;refine wpIn_mono (h (B.here E Pp st.o a.defers w) E Pp a w hb hs.here) ?_;rintro e i w' ⟨g,b,E',Pp',he,d,j⟩;exact⟨g,b,E',Pp',he,hs.back (d2:=i.defers) d.at,Mk.none d.defers,d.fr.size,j⟩
def Iu(n:ez P G.tt)(p:P.follows .mixedOrders=true)(id:Nat)(b:Array Oper)(g:Bool):∀(st:St)(Q:Ex->St->Prop),GO dS G (lU P G.tt) id b g st (Q .normal)->sB P G.tt G.n G.n0 r (.region id b g) st Q:=by
 intro st Q h;refine sB.xl λB E Pp a w hb hs=>?_;cases g with
 |true=>
  refine wpIn_region_any p ?_
  have l:s7 G b b.toList 0 b.toList=true/\nE dS G (lU P G.tt) b.toList (bY b.toList) (nS 0 b.toList) 0 ⟨st.s,fz (my st.s b.toList b.toList) 0 st.o⟩ (Q .normal):=by
   simp only[GO]at h;split at h
   ·exact⟨h.1 (λh=>h),h.2⟩
   ·have h1:=h.1 (λh=>h);simp only[bn]at h1;refine⟨h1.1,?_⟩;rw[<- CU dS G (lU P G.tt) _ _ _ _ _ ?_ h1.2]
    ·exact h.2
    ·intro i m o p;obtain⟨j,e1,e2,_⟩:=(vt _ _ _ _ _).1 p;rw[yI,e2,dY];exact e1
  obtain⟨h1,h2⟩:=l;have u:gW G.tt G.n B E (gQ G.tt E st.o w Pp (my st.s b.toList b.toList)) ⟨st.s,fz (my st.s b.toList b.toList) 0 st.o⟩ a { w with drawn:=w.drawn+1 }:=by have:=(hs.Ih.nM (my st.s b.toList b.toList)).drew;exact cK.Oh (st:=⟨st.s,fz (my st.s b.toList b.toList) 0 st.o⟩) this (λt=>(hs.fJ t).mono (λ_ _ h=>h) (λ_ _ h=>.inl h)) hs.size hs.defers
  have hl:=nH.start b;rw[cL,fI]at h2
  exact(Qf (r0:=r) (B:=B) n hb h1 (Q:=Q .normal) (Q':=λe s w'=>∃k d E' Pp',uq e k/\gW G.tt G.n B E' Pp' d s w'/\Q k d)
   (λE Pp st a w hs q=>⟨.normal,st,E,Pp,trivial,hs,q⟩) (by rintro c a w ⟨k,_,_,_,h,_⟩;cases k<;>exact h) b.size _ _ _ _ E _ a _ hl u h2).any
 |false=>
  refine wpIn_region ?_
  have:=JR (r:=r) (B:=B) n hb (all:=b) (Q:=Q .normal) (Q':=λe s w'=>∃k d E' Pp',uq e k/\gW G.tt G.n B E' Pp' d s w'/\Q k d)
   (λE Pp st a w hs q=>⟨.normal,st,E,Pp,trivial,hs,q⟩) b.toList 0 rfl st E Pp a w hs h
  simpa[List.range_eq_range']using this
def rC(M:ez P G.tt)(T:P.follows .mixedOrders=true)(J:∀c st Q,LP c st Q->sB P G.tt G.n G.n0 r c st Q):∀(c:Code)(st:St)(Q:Ex->St->Prop),oA dS G (lU P G.tt) LP c st Q->sB P G.tt G.n G.n0 r c st Q:=by
 intro c;induction c with
 |skip=>intro st Q h;exact sB.xl λB E Pp a w hb hs=>wpIn_skip ⟨.normal,st,E,Pp,trivial,hs,h⟩
 |region id ops draw=>
  intro st Q h;simp only[oA]at h;split at h
  ·exact J _ _ _ h
  ·exact Iu M T id ops draw st Q h
 |seq x y s q=>
  intro st Q h B E Pp a w hb hs;refine wpIn_seq (wpIn_mono (s _ _ h B E Pp a w hb hs) ?_);rintro e A w' ⟨C,o,E',Pp',he,m,n,fW,p⟩;cases e<;>cases C<;>simp only[uq]at he
  ·refine wpIn_mono (q _ _ p (B.here E' Pp' o.o A.defers w') E' Pp' A w' hb m.here) ?_;rintro e2 a2 W ⟨D,H,E2,F,L,k,O,I,V⟩;exact⟨D,H,E2,F,L,gW.back (B:=B.at A.defers) m k,Mk.trans fW n k O,bM fW I,V⟩
  ·subst he;exact⟨.exit _,o,E',Pp',rfl,m,n,fW,p⟩
  ·exact⟨.ret,o,E',Pp',trivial,m,n,fW,p⟩
 |cond c x y s q=>
  intro st Q h B E Pp a w hb hs;have hc:=fa hs.fJ c;simp only[oA]at h
  have l:∀(b t:Bool),ev st.s c= .bool t->t=b->gW G.tt G.n B E Pp (JJ c b st) a w:=by
   intro b t g R;cases c with
   |tmp d=>
    simp only[JJ];simp only[ev]at g
    have hl:look st.s d= .bool t:=by
     cases S:look st.s d<;>rw[S]at g<;>simp[norm]at g
     rw[g]
    exact qy hs hl R
   |_=>exact hs
  split at h
  ·rename_i g;rw[g]at hc;generalize z:a.eval c=v at hc;cases hc;exact wpIn_cond_true z (s _ _ h B E Pp a w hb hs)
  ·rename_i g;rw[g]at hc;generalize z:a.eval c=v at hc;cases hc;exact wpIn_cond_false z (q _ _ h B E Pp a w hb hs)
  ·rename_i t g;rw[g]at hc;generalize z:a.eval c=v at hc;cases hc;cases t with
   |true=>exact wpIn_cond_true z (s _ _ (h.1 rfl) B E Pp a w hb (l _ _ g rfl))
   |false=>exact wpIn_cond_false z (q _ _ (h.2 rfl) B E Pp a w hb (l _ _ g rfl))
  ·exact h.elim
 |block id c U=>
  intro st Q h B E Pp a w hb hs;refine wpIn_block (wpIn_mono (U _ _ h B E Pp a w hb hs) ?_);rintro e A w' ⟨C,o,E',Pp',he,m,n,fW,p⟩;cases e<;>cases C<;>simp only[uq]at he
  ·exact⟨.normal,o,E',Pp',trivial,m,n,fW,p⟩
  ·rename_i i j;subst he;simp only[Exit.inBlock];simp only at p;by_cases u:i=id
   ·subst u;rw[jQ]at p;rw[if_pos rfl];exact⟨.normal,o,E',Pp',trivial,m,n,fW,p⟩
   ·have hb:nb i id=false:=by
     cases hb:nb i id with
     |false=>rfl
     |true=>exact absurd (cX hb) u
    rw[hb]at p;rw[if_neg u];exact⟨.exit _,o,E',Pp',rfl,m,n,fW,p⟩
  ·exact⟨.ret,o,E',Pp',trivial,m,n,fW,p⟩
 |loop c _=>intro st Q h;exact J _ _ _ h
 |exit id=>intro st Q h;exact sB.xl λB E Pp a w hb hs=>wpIn_exit ⟨.exit id,st,E,Pp,rfl,hs,h⟩
 |ret=>intro st Q h;exact sB.xl λB E Pp a w hb hs=>wpIn_ret ⟨.ret,st,E,Pp,trivial,hs,h⟩
 |rangeFunc=>intro st Q h;exact J _ _ _ h
 |scope=>intro st Q h;exact h.elim
 |label=>intro st Q h;exact h.elim
 |goto=>intro st Q h;exact h.elim
 |refuse=>intro st Q h;exact h.elim
def GR(b:ez P G.tt)(d:P.follows .mixedOrders=true):∀(c:Code)(st:St)(Q:Ex->St->Prop),oA dS G (lU P G.tt) (λc st Q=>sB P G.tt G.n G.n0 r c st Q) c st Q->sB P G.tt G.n G.n0 r c st Q:=rC b d λ_ _ _ h=>h
def sr:∀(ps:List PV)(i t:Nat),look (mg i ps) t=if i<=t/\t<i+ps.length then ps.getD (t-i) .undef else .undef
 |[],i,t=>by simp[mg,look]
 |p::ps,i,t=>by
  simp only[mg,jt,sr ps (i+1) t];by_cases h:i=t
  ·subst h;simp
  ·rw[if_neg h];by_cases h2:i+1<=t/\t<i+1+ps.length
   ·rw[if_pos h2,if_pos yQ];rw[show t-i=(t-(i+1))+1 by omega];simp
   ·rw[if_neg h2,if_neg yQ]
def Fc{n:Nat}(b:eM G.tt E Pp vals args):
 ∀t,VR G.tt E Pp (((⟨vals⟩:Array Value)++hY n undef).getD t undef) (look (mg 0 args) t):=by
 intro t;rw[sr];have hl:=b.length;by_cases h:0<=t/\t<0+args.length
 ·rw[if_pos h];have dA:t<args.length:=yO;obtain⟨v,h1,h2⟩:=b.get (j:=t) (p:=args[t]) (bu dA);have e1:args.getD (t-0) .undef=args[t]:=by simp[cx,bu dA]
  have e2:((⟨vals⟩:Array Value)++hY n undef).getD t undef=v:=by rw[cO,gK (by simpa using(by omega:t<vals.length))];simp[h1]
  rw[e1,e2];exact h2
 ·rw[if_neg h];exact .undef _
def JU(tmps:Array Value):ResultVar->Sem Value
 | .tmp t=>pure (tmps.getD t undef)
 | .cell a t=>do loadVar t (<- asAddr (tmps.getD a undef))
def GL(fn:Func)(tmps:Array Value):results fn tmps=(do let vs <-fn.results.mapM (JU tmps);pure (if h:vs.size=1 then vs[0]else .tuple vs)):=rfl
def JT{tmps:Array Value}{t:Nat}{ty:TypeId}{ad:Addr}(h:tmps.getD t undef= .pointer (some ad)):JU tmps (.cell t ty)=loadVar ty ad:=by simp only[JU,h,asAddr,pure_bind]
def tO(d:ez P G.tt)(hs:gW G.tt G.n B E Pp st a w):∀{l:List ResultVar}{ps:List PV},ya G st l=some ps->
 ∃vs,(l.mapM (JU a.tmps)).run P w= .ok vs w/\eM G.tt E Pp vs ps
 |[],ps,h=>by simp[ya]at h;subst h;exact⟨[],yS,.nil⟩
 | .tmp t::r,ps,h=>by
  simp only[ya]at h;split at h
  ·rename_i l hl;simp at h;subst h;obtain⟨vs,h1,h2⟩:=tO d hs hl;exact⟨a.tmps.getD t undef::vs,by simp only[DF,JU,Sem.run_bind,Sem.run_pure,Result.andThen_ok,h1],.cons _ _ _ _ (QM 8 _ _ (IM (hs.fJ t))) h2⟩
  ·simp at h
 | .cell t ty::r,ps,h=>by
  simp only[ya]at h;split at h
  ·rename_i b off ti l hb g hl;split at h
   ·rename_i cs i;simp only[cL,tF,zM]at h;cases hle:(iD off dC&&iD (off+ti.bP.length) cs.length)with
    |false=>rw[hle]at h;simp at h
    |true=>
     rw[hle]at h;simp at h;subst h;obtain⟨vs,h1,h2⟩:=tO d hs hl;have e:=hs.fJ t;rw[hb]at e;generalize k:a.tmps.getD t undef=v at e;cases e with
     |box _ _ _ gu j hu=>
      rw[bn]at hle;obtain rfl:=hu.get hle.1;obtain⟨v,h3,h4⟩:=EO (d _ _ g) hs.wr.rw j i (dX hle.2);refine⟨v::vs,?_,.cons _ _ _ _ (QM 8 _ _ h4) h2⟩;have h5:(loadVar ty ⟨gu,off,none⟩).run P w= .ok v w:=by simpa[Instr.loadAt,Instr.sureAddr]using h3 w rfl
      simp only[DF,JT k,Sem.run_bind,Sem.run_pure,Result.andThen_ok,h5,h1]
   ·simp at h
  ·simp at h
def tP(e:ez P G.tt)(hs:gW G.tt G.n B E Pp st a w){p:PV}(h:yb G st fn.results.toList=some p):
 ∃v,(results fn a.tmps).run P w= .ok v w/\VR G.tt E Pp v p:=by
 unfold yb at h
 have b:∀vs:List Value,(fn.results.toList.mapM (JU a.tmps)).run P w= .ok vs w->
  (results fn a.tmps).run P w= .ok (if h:(⟨vs⟩:Array Value).size=1 then(⟨vs⟩:Array Value)[0]else .tuple ⟨vs⟩) w:=by
  intro vs d;simp only[GL,Sem.run_bind,pb,Sem.run_map,d,Result.andThen_ok];rfl
 split at h
 ·rename_i v d;simp at h;subst h;obtain⟨vs,h1,h2⟩:=tO e hs d;cases h2 with
  |cons u _ vs _ hu i=>cases i;exact⟨u,by rw[b _ h1];simp,hu⟩
 ·rename_i vs g d;simp at h;subst h;obtain⟨us,h1,h2⟩:=tO e hs d;refine⟨.tuple ⟨us⟩,?_,.tup _ _ h2⟩;rw[b _ h1];have hl:=h2.length
  have:¬(⟨us⟩:Array Value).size=1:=by
   intro h1;have:vs.length=1:=by rw[<- hl];simpa using h1
   match vs,this with
   |[x],_=>exact g x rfl
  rw[dif_neg this]
 ·simp at h
def oZ(hf:P.funcs[f]? =some fn)(hb:fn.body=some c)(b:(fn.name== "runtime.NumGoroutine")=false):(callFunc f ⟨vals⟩).run P w= .ok (.enter f ⟨vals⟩) w:=by have h2:¬fn.name= "runtime.NumGoroutine" :=yU b;simp[callFunc,hf,hb,h2]
def gW.Pc{b:Nat}{g:Obj}(h:gW tt N B E Pp st a w)(i:w.heap[b]? =some (.deferred (some [])))(d:¬own E st.o b)(l:B.w0.heap.size<=b):gW tt N B E Pp st a (w.putObj b g):=by
 have same:∀k,k≠b->(w.putObj b g).heap[k]? =w.heap[k]? :=λk hk=>World.putObj_heap_other hk;refine⟨h.wr.frame (λk hk=>same k (λe=>d (e▸hk))) (λ_ _ h=>h) (λ_ _ h=>.inl h) (λad v j=>?_),h.fJ,h.size,h.defers,h.pre,h.sT,?_,h.jV,h.fresh⟩
 ·have hc:=h.wr.pi ad v j;rw[ia (same ad.block ?_)]
  ·exact hc
  ·intro e;simp[pc,e,i]at hc
 ·exact⟨h.fr.os,h.fr.tape,h.fr.output,by simpa[World.putObj]using h.fr.size,h.fr.drawn,λk hk m=>(same k yO).trans (h.fr.block k hk m)⟩
def I0{R:Ending->World->Prop}:∀(bs:List Nat)(w:World)(a:Act),bs.Nodup->(∀b∈bs,B.w0.heap.size<=b/\w.heap[b]? =some (.deferred (some []))/\¬own E st.o b)->gW tt N B E Pp st a w->
 (∀w',gW tt N B E Pp st a w'->∃v,(results fn a.tmps).run P w'= .ok v w'/\R (.returned v) w')->LeavesInM (oX none) 0 P fn a.tmps R (bs.map Se) .returning w
 |[],w,a,_,_,hs,h=>h w hs
 |b::bs,w,a,gx,hb,hs,h=>by rw[cq]at gx;obtain⟨h1,h2,h3⟩:=hb b yS;refine⟨yS,.inl ⟨b,w.putObj b (.deferred none),rfl,run_takeDeferred h2,?_⟩⟩;refine I0 bs _ a gx.2 (λb' d=>?_) (hs.Pc h2 h3 h1) h;obtain⟨i,e,g⟩:=hb b' (by simp[d]);refine⟨i,?_,g⟩;rw[World.putObj_heap_other (by rintro rfl;exact gx.1 d)];exact e
def Jq(C:ez P G.tt)(H:P.follows .mixedOrders=true)(j:(fn.name== "runtime.NumGoroutine")=false)(hf:P.funcs[f]? =some fn)(hb:fn.body=some c)(y:objs.length=G.n0)(o:St)
 (q:∀E Pp w vals,WR G.tt E Pp objs w->eM G.tt E Pp vals args->∃z,gW G.tt G.n { w0:=w,E0:=E,P0:=Pp,mo:=own E objs } z Pp o ⟨(⟨vals⟩:Array Value)++hY (fn.ntmps-(⟨vals⟩:Array Value).size) undef,[]⟩ w)
 (h:sB P G.tt G.n G.n0 none c o λe st=>match e with| .exit _=>False|_=>fin st)
 (m:∀{E Pp w E' Pp' i k w' d},WR G.tt E Pp objs w->fin i->gW G.tt G.n { w0:=w,E0:=E,P0:=Pp,mo:=own E objs,d0:=d } E' Pp' i k w'->∃v,(results fn k.tmps).run P w'= .ok v w'/\lV G.tt E Pp objs w K (.returned v) w'):FC P G.tt f objs args K:=by
 intro E Pp w vals u D;obtain⟨z,s⟩:=q E Pp w vals u D;refine .inl ⟨oZ hf hb j,?_⟩;refine callsIn_wide.1 (callsIn_of_wp_marks (F:=oX none) (n:=0) hf hb trivial (wpIn_mono (h _ z Pp _ w (by rw[<- y];exact u.len) s) ?_));rintro e k w' ⟨A,i,E',Pp',he,p,⟨bs,l,gx,g⟩,_,t⟩;rw[cz]at l;have go:fin i->LeavesInM (oX none) 0 P fn k.tmps (lV G.tt E Pp objs w K) k.defers .returning w':=by intro hr;have:=I0 (fn:=fn) (R:=lV G.tt E Pp objs w K) bs w' k gx (λb hb=>⟨(g b hb).1,(g b hb).2.2.1,(g b hb).2.2.2⟩) p (λI x=>m u hr x);rw[l];exact this
 cases e<;>cases A<;>simp only[uq]at he
 ·exact go t
 ·exact t.elim
 ·exact go t
def Du(q:∀c st Q,LP c st Q->sB P G.tt G.n G.n0 none c st Q)(k:ez P G.tt)(n:P.follows .mixedOrders=true)(b:(fn.name== "runtime.NumGoroutine")=false)(hf:P.funcs[f]? =some fn)(hb:fn.body=some c)(m:objs.length=G.n0)(g:St)
 (l:∀E Pp w vals,WR G.tt E Pp objs w->eM G.tt E Pp vals args->∃p,gW G.tt G.n { w0:=w,E0:=E,P0:=Pp,mo:=own E objs } p Pp g ⟨(⟨vals⟩:Array Value)++hY (fn.ntmps-(⟨vals⟩:Array Value).size) undef,[]⟩ w)
 (h:oA dS G (lU P G.tt) LP c g λe st=>match e with| .exit _=>False|_=>fin st)
 (j:∀{E Pp w E' Pp' i o w' d},WR G.tt E Pp objs w->fin i->gW G.tt G.n { w0:=w,E0:=E,P0:=Pp,mo:=own E objs,d0:=d } E' Pp' i o w'->∃v,(results fn o.tmps).run P w'= .ok v w'/\lV G.tt E Pp objs w K (.returned v) w'):FC P G.tt f objs args K:=
 Jq k n b hf hb m g l (rC k n q c _ _ h) j
def Lx(m:fn.ntmps=G.n)(d:iD (bY args) G.n=true):∀E Pp w vals,WR G.tt E Pp [] w->eM G.tt E Pp vals args->∃l,gW G.tt G.n { w0:=w,E0:=E,P0:=Pp,mo:=own E [] } l Pp ⟨mg 0 args,[]⟩ ⟨(⟨vals⟩:Array Value)++hY (fn.ntmps-(⟨vals⟩:Array Value).size) undef,[]⟩ w:=by intro E Pp w vals g e;have j:=e.length;rw[cL]at d;have k:=dX d;exact⟨E,g,Fc e,yQ,rfl,.refl _,λ_ _ h=>h,Fr.refl _ _,λad v h=>.inl h,λi o ri b h=>yE h⟩
def Ts(m:ez P G.tt)(s:P.follows .mixedOrders=true)(j:(fn.name== "runtime.NumGoroutine")=false)(hf:P.funcs[f]? =some fn)(hb:fn.body=some c)(z:fn.ntmps=G.n)(n:G.n0=0)(l:iD (bY args) G.n=true)
 (h:sB P G.tt G.n G.n0 none c ⟨mg 0 args,[]⟩ λe st=>match e with| .exit _=>False|_=>CD G 0 fn.results.toList st K):FC P G.tt f [] args K:=by
 refine Jq m s j hf hb n.symm _ (Lx z l) h ?_;intro E Pp w E' Pp' k C w' d q hr g;have t:E=[]:=cm (by rw[q.len];rfl);subst t;unfold CD at hr;split at hr
 ·rename_i p x;obtain⟨v,h1,h2⟩:=tP m g x;refine⟨v,h1,v,[],gQ G.tt E' k.o w' Pp' (ids k.o 8 p),[],_,rfl,.refl _,λad u hu=>.inl (g.sT ad u hu),?_,s3 g.wr 8 _ _ h2 (λi A=>A),hr,g.fr,?_,λi o ri b h=>yE h⟩
  ·exact WR.nil (λad u hu=>Fh g.wr hu) (g.wr.TX λ_ _ y=>.inl y)
  ·intro ad u hu;rcases BA hu with h3|⟨i,o,ri,h3,h4,h5,h6⟩
   ·exact g.jV ad u h3
   ·exact .inr (g.fresh i o ri _ h3 h4 h5 h6)
 ·exact hr.elim
def Ro(g:ez P G.tt)(j:P.follows .mixedOrders=true)(b:(fn.name== "runtime.NumGoroutine")=false)(hf:P.funcs[f]? =some fn)(hb:fn.body=some c)(l:fn.ntmps=G.n)(i:G.n0=0)(d:iD (bY args) G.n=true)
 (k:∀c st Q,LP c st Q->sB P G.tt G.n G.n0 none c st Q)
 (h:oA dS G (lU P G.tt) LP c ⟨mg 0 args,[]⟩ λe st=>match e with| .exit _=>False|_=>CD G 0 fn.results.toList st K):FC P G.tt f [] args K:=
 Ts g j b hf hb l i d (rC g j k c _ _ h)
def tV(z:WR tt E Pp st.o w):∀{l:List PV}{k:Nat}{vs:List Value}{ps:List PV}{rs:List Nat}{E0:List RI},wz n0 st k l=some (ps,rs)->eM tt E Pp vs l->E0.length=k->
 eM tt (E0++rs.map (λr=>E.getD r .row0)) Pp vs ps/\∀r∈rs,n0<=r/\∃o,st.o[r]? =some o/\lr o=true/\o.live=true
 |[],k,vs,ps,rs,E0,h,C,_=>by simp[wz]at h;obtain⟨rfl,rfl⟩:=h;cases C;exact⟨.nil,λr hr=>yE hr⟩
 |p::l,k,vs,ps,rs,E0,h,C,s=>by
  cases C with
  |cons v _ vs _ u t=>
  have m:(bif ew (ids st.o 8 p)then(match wz n0 st k l with|some (ps,rs)=>some (nN st.o 8 p::ps,rs)|none=>none)else none)=some (ps,rs)->
   eM tt (E0++rs.map (λr=>E.getD r .row0)) Pp (v::vs) ps/\∀r∈rs,n0<=r/\∃o,st.o[r]? =some o/\lr o=true/\o.live=true:=by
   intro h;cases hb:ew (ids st.o 8 p)with
   |false=>rw[hb]at h;simp at h
   |true=>
    rw[hb]at h;simp only[cond_true]at h;split at h
    ·rename_i y b g;simp at h;obtain⟨rfl,rfl⟩:=h;obtain⟨h1,h2⟩:=tV z g t s;refine⟨.cons _ _ _ _ ?_ h1,h2⟩;have D:=s3 z (F:=[]) 8 p v u (λi H=>by rw[ke hb]at H;exact H);exact(D.mono (λ_ _ h=>h) (λ_ _=>oU)).of_nil _
    ·simp at h
  have n:∀(r:Nat) ri,E[r]? =some ri->E.getD r .row0=ri:=λr ri h=>by simp[cx,h]
  have hk:∀(r:Nat)(b:List Nat),(E0++(r::b).map (λr=>E.getD r .row0))[k]? =some (E.getD r .row0):=λr b=>by rw[cd yO,s];simp
  have q:∀(r:Nat)(b:List Nat),(E0++[E.getD r .row0])++b.map (λr=>E.getD r .row0)=E0++(r::b).map (λr=>E.getD r .row0):=λr b=>yS;simp only[wz]at h;split at h
  ·rename_i e r;split at h
   ·rename_i e' d A;cases hb:(nb e e'&&iD n0 r)with
    |false=>rw[hb]at h;simp at h
    |true=>
     rw[hb]at h;simp only[cond_true]at h;simp only[bn]at hb;split at h
     ·rename_i y b g;simp at h;obtain⟨rfl,rfl⟩:=h;obtain⟨h1,h2⟩:=tV (E0:=E0++[E.getD r .row0]) z g t (by simp[s]);rw[q]at h1;refine⟨.cons _ _ _ _ ?_ h1,?_⟩
      ·cases u with
       |row0 _ _ x=>exact .row0 _ _ (by rw[hk,n r _ x])
       |row _ _ _ _ _ _ x=>exact .row _ _ _ _ _ _ (by rw[hk,n r _ x])
      ·intro r' j;rcases bx.1 j with rfl|j
       ·exact⟨dX hb.2,_,di A rfl,rfl,rfl⟩
       ·exact h2 r' j
     ·simp at h
   ·simp at h
  ·rename_i r;split at h
   ·rename_i kc e d A;cases hb:iD n0 r with
    |false=>rw[hb]at h;simp at h
    |true=>
     rw[hb]at h;simp only[cond_true]at h;split at h
     ·rename_i y b g;simp at h;obtain⟨rfl,rfl⟩:=h;obtain⟨h1,h2⟩:=tV (E0:=E0++[E.getD r .row0]) z g t (by simp[s]);rw[q]at h1;refine⟨.cons _ _ _ _ ?_ h1,?_⟩
      ·cases u with
       |mp _ _ _ _ x=>exact .mp _ _ _ _ (by rw[hk,n r _ x])
      ·intro r' j;rcases bx.1 j with rfl|j
       ·exact⟨dX hb,_,di A rfl,rfl,rfl⟩
       ·exact h2 r' j
     ·simp at h
   ·simp at h
  ·exact m h
def Tr(M:ez P G.tt)(hm:P.follows .mixedOrders=true)(D:(fn.name== "runtime.NumGoroutine")=false)(hf:P.funcs[f]? =some fn)(hb:fn.body=some c)(hN:fn.ntmps=G.n)(X:G.n0=0)(I:iD (bY args) G.n=true)
 (h:oA dS G (lU P G.tt) (λc st Q=>sB P G.tt G.n G.n0 none c st Q) c ⟨mg 0 args,[]⟩ λe st=>match e with| .exit _=>False|_=>xg G 0 fn.results.toList st K):FC P G.tt f [] args K:=by
 refine Du (λ_ _ _ h=>h) M hm D hf hb X.symm _ (Lx hN I) h ?_;intro E Pp w E' Pp' l a' w' d hw hr g;have hE:E=[]:=cm (by rw[hw.len];rfl);subst hE
 have key:∀(l:St)(Pp':fQ),gW G.tt G.n { w0:=w,E0:=[],P0:=Pp,mo:=own [] [],d0:=d } E' Pp' l a' w'->CC G 0 fn.results.toList l K->∃v,Sem.run P (results fn a'.tmps) w'=Result.ok v w'/\lV G.tt [] Pp [] w K (Ending.returned v) w':=by
  clear g hr;intro l Pp' g hr;unfold CC at hr;split at hr
  ·rename_i p hp;obtain⟨v,h1,h2⟩:=tP M g hp;split at hr
   ·rename_i ps rs O;cases gx:jD rs with
    |false=>rw[gx]at hr;exact hr.elim
    |true=>
     rw[gx]at hr;simp only[cond_true]at hr;have gx:=oQ gx
     have parts:∃vs,eM G.tt E' Pp' vs (partsOf p).1/\∀E2 ps,eM G.tt E2 Pp' vs ps->ps.length=(partsOf p).1.length->VR G.tt E2 Pp' v (H4 (partsOf p).2 ps):=by
      cases p with
      |tup cs=>
       cases h2 with
       |tup us _ hl=>exact⟨us,hl,λE2 ps h _=>.tup _ _ h⟩
      |_=>
       refine⟨[v],.cons _ _ _ _ h2 .nil,λE2 ps h hl=>?_⟩;cases h with
       |cons _ q _ _ h3 h4=>cases h4;exact h3
     obtain⟨vs,R,t⟩:=parts;obtain⟨h3,h4⟩:=tV (E0:=[]) g.wr O R rfl;rw[jd]at h3;have z:∀(j:Nat) r,rs[j]? =some r->∀ri,E'[r]? =some ri->(rs.map (λr=>E'.getD r .row0))[j]? =some ri:=by intro j r m ri k;simp[m,cx,k]
     have y:∀(j:Nat) o,(cQ (eG l.o) rs)[j]? =some o->∃r,rs[j]? =some r/\l.o[r]? =some o/\lr o=true/\o.live=true:=by
      intro j o m;rw[gP,cC]at m;cases W:rs[j]? with
      |none=>rw[W]at m;simp at m
      |some r=>
       rw[W]at m;simp at m;obtain⟨_,o',s,A,H⟩:=h4 r (fA W);have:eG l.o r=o':=by rw[rO];simp[cx,s]
       rw[this]at m;subst m;exact⟨r,rfl,s,A,H⟩
     refine⟨v,h1,v,rs.map (λr=>E'.getD r .row0),Pp',cQ (eG l.o) rs,_,rfl,λi x h=>yE h,λad u hu=>g.sT ad u hu,?_,t _ _ h3 (by rw[<- h3.length,<-R.length]),hr,g.fr,g.jV,?_⟩
     ·refine⟨by simp[gP],g.wr.pi,?_,?_,g.wr.gl⟩
      ·intro j o m hl;obtain⟨r,s,A,H,C⟩:=y j o m;obtain⟨ri,k,V⟩:=g.wr.ob r o A C;exact⟨ri,z j r s ri k,V.goes H C⟩
      ·intro i j oi oj ri rj b hi m ak aj J n T Y;obtain⟨r,s,A,H,C⟩:=y i oi hi;obtain⟨r',p1,p2,p3,Z⟩:=y j oj m;obtain⟨ri',k,_⟩:=g.wr.ob r oi A C;obtain⟨U,F,_⟩:=g.wr.ob r' oj p2 Z;rw[z i r s ri' k]at J;cases J;rw[z j r' p1 U F]at n;cases n;have:=g.wr.sep r r' oi oj ri rj b A p2 C Z k F T Y;subst this;exact Bg gx s p1
     ·intro j o ri b m hl n hb;obtain⟨r,s,A,H,C⟩:=y j o m;obtain⟨ri',k,_⟩:=g.wr.ob r o A C;rw[z j r s ri' k]at n;cases n;exact g.fresh r o ri b A C k hb
   ·exact hr.elim
  ·exact hr.elim
 unfold xg at hr;split at hr
 ·rename_i p0 ag;obtain⟨ab,L,_,S,_⟩:=tJ (CO p0) g.Ih g.fJ;exact key _ _ (cK.Oh L S g.size g.defers) hr
 ·exact hr.elim
end
end
section
variable [Inhabited pY]
open Go
def yg:PV->PV->Prop
 |_,.undef=>True
 | .bl a,.bool b=>a=b
 | .om e d,.lst e' d'=>e=e'/\d=d'
 | .lst e d,.lst e' d'=>e=e'/\d=d'
 | .int k n,.int k' n'=>k=k'/\n=n'
 | .bool a,.bool b=>a=b
 | .str a,.str b=>a=b
 | .nilp,.dptr _ d=>d= .nil
 |p,q=>p=q
def Iv:List PV->List PV->Prop
 |[],[]=>True
 |p::ps,q::b=>yg p q/\Iv ps b
 |_,_=>False
def Gv(s:cS):cS->Prop
 |[]=>True
 |(t,q)::r=>yg (look s t) q/\Gv s r
def J6:Ob->Ob->Prop
 |_,.dead=>True
 | .box cs,.box f=>Iv cs f
 | .row e d b,.row e' d' b'=>e=e'/\d=d'/\b=b'
 | .map k e d,.map k' e' d'=>k=k'/\e=e'/\d=d'
 | .iter m s,.iter m' s'=>m=m'/\s=s'
 | .diter e d s,.diter e' d' s'=>e=e'/\d=d'/\s=s'
 | .loop n ps a c s j,.loop n' h l o s' i=>n=n'/\ps=h/\a=l/\c=o/\Gv s s'/\j=i
 |_,_=>False
def ON:List Ob->List Ob->Prop
 |_,[]=>True
 |o::os,q::b=>J6 o q/\ON os b
 |[],_::_=>False
def oS(n:Nat):Nat->PV->Bool
 |0,_=>false
 |k+1,p=>match p with
  | .agg cs=>gF (oS n k) cs
  | .tup cs=>gF (oS n k) cs
  | .cu _ cs=>gF (oS n k) cs
  | .du cs _=>gF (oS n k) cs
  | .box b _=>iC b n
  | .row _ b=>iC b n
  | .fM _ b _ _=>iC b n
  | .mp b=>iC b n
  | .it b=>iC b n
  | .kF b=>iC b n
  |_=>true
def G8(n:Nat):cS->Bool
 |[]=>true
 |(_,p)::s=>oS n 8 p&&G8 n s
def y9(n:Nat):List Ob->Bool
 |[]=>true
 | .box cs::l=>gF (oS n 8) cs&&y9 n l
 | .iter m _::l=>iC m n&&y9 n l
 | .loop _ _ _ _ s _::l=>G8 n s&&y9 n l
 |_::l=>y9 n l
def Sub(n0:Nat)(st g:St):Prop:=(G8 (bY g.o) g.s&&y9 (bY g.o) g.o&&iD n0 (bY g.o))=true/\Gv st.s g.s/\ON st.o g.o
section
variable {P:Program}{tt:TypeId->Option TI}{N n0:Nat}{B:jH}{E:List RI}{Pp:fQ}{w:World}{st:St}{a:Act}
variable {n:Nat}{α:Type}{args:List PV}{K:PV->List Ob->Prop}{p q:PV}{s:cS}{g:St}
def xi{v:Value}(h:yg p q)(b:VR tt E Pp v p):VR tt E Pp v q:=by
 unfold yg at h;split at h
 ·exact .undef _
 ·subst h;cases b;exact .bool _
 ·obtain⟨rfl,rfl⟩:=h;cases b with
  |om _ _ _ _ hr=>exact .lst _ _ _ hr
 ·obtain⟨rfl,rfl⟩:=h;exact b
 ·obtain⟨rfl,rfl⟩:=h;exact b
 ·subst h;exact b
 ·subst h;exact b
 ·subst h;cases b;exact .dptr _ _ _ (.Ap _)
 ·subst h;exact b
def yf:∀{ps c:List PV}{vs:List Value},Iv ps c->eM tt E Pp vs ps->eM tt E Pp vs c
 |[],[],_,_,b=>b
 |p::ps,q::c,vs,h,b=>by
  cases b with
  |cons _ _ _ _ h1 h2=>exact .cons _ _ _ _ (xi h.1 h1) (yf h.2 h2)
 |[],_::_,_,h,_=>h.elim
 |_::_,[],_,h,_=>h.elim
def y8:∀(k:Nat)(p:PV)(v:Value),oS n k p=true->VR tt E Pp v p->VR tt (E.take n) Pp v p:=by
 intro k;induction k with
 |zero=>intro p v h;simp[oS]at h
 |succ k j=>
  have get:∀(b:Nat)(x:RI),iC b n=true->E[b]? =some x->(E.take n)[b]? =some x:=by intro b x hb l;rw[cN (dX hb)];exact l
  have d:∀(cs:List PV)(vs:List Value),gF (oS n k) cs=true->eM tt E Pp vs cs->eM tt (E.take n) Pp vs cs:=by
   intro cs;induction cs with
   |nil=>intro vs _ e;cases e;exact .nil
   |cons c cs i=>
    intro vs h e;simp only[gF,bn]at h;cases e with
    |cons _ _ _ _ h1 h2=>exact .cons _ _ _ _ (j _ _ h.1 h1) (i _ h.2 h2)
  intro p v h e;cases e with
  |undef=>exact .undef _
  |int=>exact .int _ _
  |bl=>exact .bl _
  |bool=>exact .bool _
  |str=>exact .str _
  |lst _ _ _ hr=>exact .lst _ _ _ hr
  |om _ _ _ _ hr=>exact .om _ _ _ _ hr
  |agg vs cs hl=>exact .agg _ _ (d _ _ h hl)
  |tup vs cs hl=>exact .tup _ _ (d _ _ h hl)
  |box _ b _ _ hb hu=>exact .box _ _ _ _ (get _ _ h hb) hu
  |row0 _ b hb=>exact .row0 _ _ (get _ _ h hb)
  |row _ b _ _ _ _ hb=>exact .row _ _ _ _ _ _ (get _ _ h hb)
  |fM _ _ b _ _ _ _ _ _ hb h0 h1=>exact .fM _ _ _ _ _ _ _ _ _ (get _ _ h hb) h0 h1
  |jv _ _ _ _ _ _ _ _ hr h0 h1=>exact .jv _ _ _ _ _ _ _ _ hr h0 h1
  |du u vs cs off b o hu hl hV=>exact .du _ _ _ _ _ _ hu (d _ _ h hl) hV
  |dptr _ _ _ hr=>exact .dptr _ _ _ hr
  |dmp _ _ _ _ hr=>exact .dmp _ _ _ _ hr
  |rP _ _ _ _ _ hr=>exact .rP _ _ _ _ _ hr
  |cu u f vs cs hu hl=>exact .cu _ _ _ _ hu (d _ _ h hl)
  |nilp=>exact .nilp
  |nilm=>exact .nilm
  |lj=>exact .lj
  |nilf=>exact .nilf
  |mp b _ _ _ hb=>exact .mp _ _ _ _ (get _ _ h hb)
  |it b _ hb=>exact .it _ _ (get _ _ h hb)
  |kF b _ hb=>exact .kF _ _ (get _ _ h hb)
def IW{k:Nat}{cs:List PV}{vs:List Value}(h:gF (oS n k) cs=true)(b:eM tt E Pp vs cs):eM tt (E.take n) Pp vs cs:=by
 induction cs generalizing vs with
 |nil=>cases b;exact .nil
 |cons c cs d=>
  simp only[gF,bn]at h;cases b with
  |cons _ _ _ _ h1 h2=>exact .cons _ _ _ _ (y8 k _ _ h.1 h1) (d h.2 h2)
def Br(h:G8 n s=true)(t:Nat):oS n 8 (look s t)=true:=by
 induction s with
 |nil=>rfl
 |cons x s b=>
  obtain⟨k,p⟩:=x;simp only[G8,bn]at h;rw[jt];split
  ·exact h.1
  ·exact b h.2
def EN:∀{l:List Ob}{i:Nat}{o:Ob},y9 n l=true->l[i]? =some o->(∀cs,o= .box cs->gF (oS n 8) cs=true)/\(∀m s,o= .iter m s->m<n)/\(∀k ps a c s j,o= .loop k ps a c s j->G8 n s=true)
 |[],i,o,_,d=>yE d
 |x::l,i,o,h,d=>by
  cases i with
  |zero=>
   simp at d;subst d;refine⟨?_,?_,?_⟩
   ·intro cs b;subst b;simp only[y9,bn]at h;exact h.1
   ·intro m s b;subst b;simp only[y9,bn]at h;exact dX h.1
   ·intro k ps a c s j b;subst b;simp only[y9,bn]at h;exact h.1
  |succ i=>
   have hl:y9 n l=true:=by cases x<;>simp_all[y9]
   exact EN hl (yU d)
def xL:∀{l k:List Ob}{i:Nat}{q:Ob},ON l k->k[i]? =some q->∃o,l[i]? =some o/\J6 o q
 |_,[],i,q,_,h=>yE h
 |[],_::_,_,_,h,_=>h.elim
 |o::os,q::d,i,c,h,b=>by
  cases i with
  |zero=>simp at b;subst b;exact⟨o,rfl,h.1⟩
  |succ i=>simpa using xL h.2 (yU b)
def DX:∀{l k:List Ob},ON l k->k.length<=l.length
 |_,[],_=>yS
 |[],_::_,h=>h.elim
 |o::os,q::b,h=>by simpa using DX h.2
def rz:∀{r:cS},Gv s r->∀t,yg (look s t) (look r t)
 |[],_,t=>by simp[look,yg]
 |(k,q)::r,h,t=>by
  rw[jt];split
  ·rename_i hk;subst hk;exact h.1
  ·exact rz h.2 t
def L1(h:yg p q)(c:pt q=true):pt p=true:=by
 cases q with
 |nilp=>cases p<;>first|rfl|(simp only[yg]at h;cases h)
 |box b off=>cases p<;>first|rfl|(simp only[yg]at h;cases h)
 |_=>cases c
def JY:∀{ps e:List PV},Iv ps e->nY e=true->nY ps=true
 |_,[],_,h=>yC h
 |_,[_],_,h=>yC h
 |[],_::_::_,h,_=>h.elim
 |[_],[_,_],h,_=>h.2.elim
 |[a,b],[c,d],h,hb=>L1 (p:=a) (q:=c) h.1 hb
 |_::_::_::_,[_,_],h,_=>h.2.2.elim
 |_,_::_::_::_,_,h=>yC h
def OR.le{ri:RI}{o q:Ob}(h:J6 o q)(hl:q.live=true)(i:(∀cs,q= .box cs->gF (oS n 8) cs=true)/\(∀m s,q= .iter m s->m<n)/\(∀k ps a c s j,q= .loop k ps a c s j->G8 n s=true))(f:OR tt E Pp w ri o):o.live=true/\OR tt (E.take n) Pp w ri q:=by
 cases o<;>cases q<;>simp only[J6]at h<;>simp[Ob.live]at hl
 case box.box cs u=>
  refine⟨rfl,?_⟩;cases ri<;>simp only[OR]at f ⊢
  ·obtain⟨vs,T,h1,h2,h3,h4⟩:=f;exact⟨vs,T,h1,IW (i.1 _ rfl) (yf h h2),h3,λhb=>h4 (JY h hb)⟩
  ·exact f.imp λ_ a=>⟨a.1,IW (i.1 _ rfl) (yf h a.2.1),a.2.2⟩
 case row.row e d b e' d' b'=>obtain⟨rfl,rfl,rfl⟩:=h;exact⟨rfl,by cases ri<;>exact f⟩
 case map.map k e d k' e' d'=>obtain⟨rfl,rfl,rfl⟩:=h;exact⟨rfl,by cases ri<;>exact f⟩
 case iter.iter m s m' s'=>
  obtain⟨rfl,rfl⟩:=h;refine⟨rfl,?_⟩;cases ri<;>try exact f.elim
  obtain⟨l,borns,clock,x,h1,h2⟩:=f;exact⟨l,borns,clock,x,by rw[cN (i.2.1 _ _ rfl)];exact h1,h2⟩
 case diter.diter e d s e' d' s'=>obtain⟨rfl,rfl,rfl⟩:=h;exact⟨rfl,by cases ri<;>exact f⟩
 case loop.loop k ps a c s j k' v z A s' y=>
  obtain⟨rfl,rfl,rfl,rfl,h5,rfl⟩:=h;refine⟨rfl,?_⟩;cases ri<;>try exact f.elim
  obtain⟨r,h1,h2,h3⟩:=f;exact⟨r,h1,h2,λt=>y8 8 _ _ (Br (i.2.2 _ _ _ _ _ _ rfl) t) (xi (rz h5 t) (h3 t))⟩
def gW.sub(hb:B.E0.length=n0)(h:gW tt N B E Pp st a w)(hs:Sub n0 st g):gW tt N B (E.take g.o.length) Pp g a w:=by
 obtain⟨hc,h1,h2⟩:=hs;simp only[bn,cL]at hc;obtain⟨⟨c1,c2⟩,L⟩:=hc;have L:=dX L;have J:=DX h2
 have get:∀(i:Nat)(x:RI),(E.take g.o.length)[i]? =some x->E[i]? =some x:=by
  intro i x c;rw[oD]at c;split at c
  ·exact c
  ·simp at c
 have live:∀(i:Nat) q,g.o[i]? =some q->q.live=true->∃o ri,st.o[i]? =some o/\o.live=true/\E[i]? =some ri/\(E.take g.o.length)[i]? =some ri/\OR tt (E.take g.o.length) Pp w ri q:=by
  intro i q e hl;obtain⟨o,m,F⟩:=xL h2 e;have k:o.live=true:=by cases o<;>cases q<;>simp_all[J6,Ob.live]
  obtain⟨ri,l,z⟩:=h.wr.ob i o m k;obtain⟨_,f⟩:=OR.le F hl (EN c2 e) z
  have dA:i<g.o.length:=by
   rcases bR i g.o.length with d|d
   ·exact d
   ·rw[bU d]at e;simp at e
  exact⟨o,ri,m,k,l,by rw[cN dA];exact l,f⟩
 refine⟨⟨by simp[h.wr.len];omega,h.wr.pi,?_,?_,h.wr.gl⟩,?_,h.size,h.defers,?_,h.sT,h.fr,h.jV,?_⟩
 ·intro i q e hl;obtain⟨_,ri,_,_,_,h4,h5⟩:=live i q e hl;exact⟨ri,h4,h5⟩
 ·intro i j oi oj ri rj b M S G D I C v H;obtain⟨o,r,h3,h4,h5,h6,_⟩:=live i oi M G;obtain⟨o',r',A,u,O,Q,_⟩:=live j oj S D;exact h.wr.sep i j o o' ri rj b h3 A h4 u (get _ _ I) (get _ _ C) v H
 ·intro t;exact y8 8 _ _ (Br c1 t) (xi (rz h1 t) (h.fJ t))
 ·intro i x c
  have M:i<B.E0.length:=by
   rcases bR i B.E0.length with d|d
   ·exact d
   ·rw[bU d]at c;simp at c
  rw[cN yO];exact h.pre i x c
 ·intro i o ri b m hl R y;obtain⟨o',r,h3,h4,h5,_,_⟩:=live i o m hl;exact h.fresh i o' ri b h3 h4 (get _ _ R) y
def AL{r:Option Nat}{c:Code}{Q:Exit->Act->World->Prop}(I:α->Act->World->Prop)(C:α->Nat)(x0:α)(z:I x0 a w)
 (round:∀x a w,I x a w->c.wpIn (oX r) 0 P (Exit.then (λu w'=>∃F,I F u w'/\C F<C x) Q) a w):(Code.loop c).wpIn (oX r) 0 P Q a w:=by
 intro b k cs D hb hr
 have key:∀n x a w,C x=n->I x a w->
  ∃e u w',Q e u w'/\ArrivesIn (Machine.fenced P (oX r)) P (lone (b.atR a (.code c:: .inLoop c::k)) cs w) b k cs e u w':=by
  intro n;induction n using Nat.strongRecOn with
  |_ n J=>
   intro x a w H G;obtain⟨e,h,f,j,d⟩:=round x a w G b (.inLoop c::k) cs D hb hr;cases e with
   |normal=>obtain⟨m,t,dA⟩:=j;obtain⟨v,y,A,o,i⟩:=J (C m) (H▸dA) m h f rfl t;exact⟨v,y,A,o,.of_steps (StepsIn.trans d (.one (fenced_calm hb hr rfl) stepR_inLoop)) i⟩
   |exit id=>exact⟨_,h,f,j,.pass (x:=.inLoop c) rfl (λ_ _=>.inl yS) d⟩
   |goto l=>exact⟨_,h,f,j,.pass (x:=.inLoop c) rfl (λ_ _=>.inl yS) d⟩
   |ret=>exact⟨_,h,f,j,.pass (x:=.inLoop c) rfl (λ_ _=>.inl yS) d⟩
   |panic L=>exact⟨_,h,f,j,.pass (x:=.inLoop c) rfl (λ_ _=>.inl yS) d⟩
   |outgrown=>exact⟨_,h,f,j,.pass (x:=.inLoop c) rfl (λ_ _=>.inl yS) d⟩
 obtain⟨e,u,w',j,d⟩:=key _ x0 a w rfl z;exact⟨e,u,w',j,.of_steps (.one (fenced_calm hb hr rfl) stepR_loop) d⟩
def Mk.sub{d d':List Deferred}{w0 w:World}{E2:List RI}{o o2:List Ob}(m:Mk w0 d E o d' w)(h:∀b,own E2 o2 b->own E o b):Mk w0 d E2 o2 d' w:=by obtain⟨bs,h1,h2,h3⟩:=m;exact⟨bs,h1,h2,λb hb=>⟨(h3 b hb).1,(h3 b hb).2.1,(h3 b hb).2.2.1,λc=>(h3 b hb).2.2.2 (h b c)⟩⟩
def za{r:Option Nat}{c:Code}{Q:Ex->St->Prop}(o:St->St->Prop)
 (d:∀{B:jH}{E:List RI}{Pp:fQ}{st g:St}{a:Act}{w:World},B.E0.length=n0->gW tt N B E Pp st a w->o st g->∃E',gW tt N B E' Pp g a w/\∀b,own E' g.o b->own E st.o b)
 (I:α->St) (u:α->Prop) (v:α->Nat) (x0:α) (h0:u x0) (z:o st (I x0))
 (round:∀x,u x->sB P tt N n0 r c (I x) λe l=>match e with| .normal=>∃t,u t/\v t<v x/\o l (I t)| .exit i=>Q (.exit i) l| .ret=>Q .ret l):sB P tt N n0 r (.loop c) st Q:=by
 intro B E Pp a w hb hs;obtain⟨S,D,_⟩:=d hb hs z;refine AL (λx C w'=>∃E Pp,u x/\gW tt N (B.at C.defers) E Pp (I x) C w'/\Mk w a.defers E (I x).o C.defers w'/\w.heap.size<=w'.heap.size) v x0 ⟨S,Pp,h0,D.at,Mk.none rfl,bX _⟩ ?_;rintro x a1 G ⟨E,Pp,O,hs,R,hz⟩;refine wpIn_mono (round x O (B.here E Pp (I x).o a1.defers G) E Pp a1 G hb hs.here) ?_;rintro e a2 T ⟨H,g,E2,f,he,k,J,A,F⟩;have m:=gW.back (B:=B.at a1.defers) hs k;have h:=Mk.trans hz R k J;have j:=bM hz A;cases e<;>cases H<;>simp only[uq]at he
 ·obtain⟨t,h1,h2,h3⟩:=F;obtain⟨L,y,M⟩:=d (B:=B.at a2.defers) hb m h3;exact⟨t,⟨L,f,h1,y,h.sub M,j⟩,h2⟩
 ·subst he;exact⟨.exit _,g,E2,f,rfl,m,h,j,F⟩
 ·exact⟨.ret,g,E2,f,trivial,m,h,j,F⟩
theorem Sub.own(hs:Sub n0 st g):∀b,own (E.take g.o.length) g.o b->VC.own E st.o b:=by
 rintro b ⟨i,q,ri,h1,h2,h3,h4⟩;obtain⟨o,c,d⟩:=xL hs.2.2 h1;refine⟨i,o,ri,c,?_,?_,h4⟩
 ·cases o<;>cases q<;>simp_all[J6,Ob.live]
 ·rw[oD]at h3;split at h3
  ·exact h3
  ·simp at h3
def Ke{r:Option Nat}{c:Code}{Q:Ex->St->Prop}(I:α->St)(d:α->Prop)(j:α->Nat)(x0:α)(h0:d x0)(f:Sub n0 st (I x0))
 (round:∀x,d x->sB P tt N n0 r c (I x) λe b=>match e with| .normal=>∃k,d k/\j k<j x/\Sub n0 b (I k)| .exit i=>Q (.exit i) b| .ret=>Q .ret b):sB P tt N n0 r (.loop c) st Q:=
 za (Sub n0) (λhb h hk=>⟨_,h.sub hb hk,hk.own⟩) I d j x0 h0 f round
def Std:pP:=dS
structure Ctx (P:Program) (G:dH) (A:pP) (C:jm) (L:Code->St->(Ex->St->Prop)->Prop):Prop where
 a:A=Std
 c:C=lU P G.tt
 l:∃r:Option Nat,(G.DB=false->r=none)/\L=(λc st Q=>sB P G.tt G.n G.n0 r c st Q)
 tt:ez P G.tt
 m:P.follows .mixedOrders=true
structure Has (P:Program) (f:FuncId) (fn:Func) (c:Code):Prop where
 f:P.funcs[f]? =some fn
 name:(fn.name== "runtime.NumGoroutine")=false
 b:fn.body=some c
def FC.enter{G:dH}(d:ez P G.tt)(j:P.follows .mixedOrders=true){f:FuncId}{fn:Func}{c:Code}(hf:Has P f fn c)(k:fn.ntmps=G.n)(i:G.n0=0)(b:iD (bY args) G.n=true)
 (h:∀(A:pP)(C:jm)(L:Code->St->(Ex->St->Prop)->Prop),Ctx P G A C L->
   oA A G C L c ⟨mg 0 args,[]⟩ λe st=>match e with| .exit _=>False|_=>CD G 0 fn.results.toList st K):FC P G.tt f [] args K:=
 Ro d j hf.name hf.f hf.b k i b (λ_ _ _ h=>h) (h _ _ _ ⟨rfl,rfl,⟨_,λ_=>rfl,rfl⟩,d,j⟩)
def FC.jN{G:dH}(d:ez P G.tt)(j:P.follows .mixedOrders=true){f:FuncId}{fn:Func}{c:Code}(hf:Has P f fn c)(k:fn.ntmps=G.n)(i:G.n0=0)(b:iD (bY args) G.n=true)
 (h:∀(A:pP)(C:jm)(L:Code->St->(Ex->St->Prop)->Prop),Ctx P G A C L->
   oA A G C L c ⟨mg 0 args,[]⟩ λe st=>match e with| .exit _=>False|_=>xg G 0 fn.results.toList st K):FC P G.tt f [] args K:=
 Tr d j hf.name hf.f hf.b k i b (h _ _ _ ⟨rfl,rfl,⟨_,λ_=>rfl,rfl⟩,d,j⟩)
def Ctx.loop{G:dH}{A:pP}{C:jm}{L:Code->St->(Ex->St->Prop)->Prop}(X:Ctx P G A C L)
 (I:α->St) (d:α->Prop) (h:α->Nat) (x0:α) {c:Code}{st:St}{Q:Ex->St->Prop} (h0:d x0) (f:Sub G.n0 st (I x0))
 (round:∀x,d x->oA A G C L c (I x) λe b=>match e with| .normal=>∃j,d j/\h j<h x/\Sub G.n0 b (I j)| .exit i=>Q (.exit i) b| .ret=>Q .ret b):L (.loop c) st Q:=by
 obtain⟨rfl,rfl,⟨r,_,rfl⟩,k,l⟩:=X;exact Ke I d h x0 h0 f λx m=>GR k l c _ _ (round x m)
def Ctx.call{G:dH}{A:pP}{C:jm}{L:Code->St->(Ex->St->Prop)->Prop}(X:Ctx P G A C L){f:FuncId}{objs:List Ob}(h:FC P G.tt f objs args K):C (.fn f) objs args K:=by rw[X.c];exact h
end
end
section
variable [Inhabited pY]
open Go
variable {P:Program}{t:TypeId}
def Gg:Value->CK->Bool
 | .int k n,.int k'=>decide (k=k')&&decide (n=0)
 | .bool b,.bool=> !b
 | .string s,.str=>s.data.size==0
 | .slice none 0 0,.slice _=>true
 | .pointer none,.ptr _=>true
 | .map none,.map _ _=>true
 | .nilFunc,.fn=>true
 |_,_=>false
def oF:List Value->List CK->Bool
 |[],[]=>true
 |v::vs,c::cs=>Gg v c&&oF vs cs
 |_,_=>false
def Ng(P:Program)(t:TypeId)(ti:TI):TypeDesc->Bool
 | .struct fields=>ti.agg&&decide (fields.toList.map (λ(x:Go.Field)=>(x.offset,x.type))=ti.fs)&&(fields.toList.mapM (λ(f:Go.Field)=>(P.info? f.type).map λi=>(f.offset,i.size))).isSome
 | .array n e=>ti.agg&&decide (ti.ar=n+1)&&decide (ti.el=e)&&decide (ti.fs=[])
 | .slice e=> !ti.agg&&decide (ti.bP=[.slice e])&&decide (ti.el=e)&&decide (ti.fs=[])
 | .int k=> !ti.agg&&decide (ti.bP=[.int k])&&decide (ti.fs=[])
 | .bool=> !ti.agg&&decide (ti.bP=[.bool])&&decide (ti.fs=[])
 | .string=> !ti.agg&&decide (ti.bP=[.str])&&decide (ti.fs=[])
 | .pointer e=> !ti.agg&&decide (ti.bP=[.ptr e])&&decide (ti.fs=[])
 | .map k e=> !ti.agg&&decide (ti.bP=[.map t e])&&decide (ti.ar=k+1)&&decide (ti.el=e)&&decide (ti.fs=[])
 | .func _ _ _=> !ti.agg&&decide (ti.bP=[.fn])&&decide (ti.fs=[])
 |_=>false
def Cm(P:Program)(t:TypeId)(ti:TI):Bool:=
 match P.info? t,P.underlying t with
 |some i,some d=>(match i.zero with
  |some z=>decide (i.size=ti.bP.length)&&decide (i.bytes=ti.bytes)&&oF z.cells.toList ti.bP&&(match z with| .agg _=>ti.agg|_=> !ti.agg)&&Ng P t ti d&&(decide (ti.ar=0)|| !ti.agg||(match d with| .array _ _=>true|_=>false))
  |none=>false)
 |_,_=>false
def wJ:List (TypeId×TI)->TypeId->Option TI
 |[],_=>none
 |(k,ti)::r,t=>bif nb k t then some ti else wJ r t
def Js{v:Value}{c:CK}(h:Gg v c=true):v=zeroV c:=by
 unfold Gg at h;split at h<;>simp at h<;>simp only[zeroV]
 ·rw[h.1,h.2]
 ·rw[h]
 ·rename_i s;obtain⟨d⟩:=s;first|(subst h;rfl)|(simp at h;rw[h])|(rw[h];rfl)
def wa:∀{vs:List Value}{cs:List CK},oF vs cs=true->vs=cs.map zeroV
 |[],[],_=>rfl
 |v::vs,c::cs,h=>by simp only[oF,bn]at h;simp only[bF];rw[Js h.1,wa h.2]
 |[],_::_,h=>by simp[oF]at h
 |_::_,[],h=>by simp[oF]at h
def Gt{ti:TI}(h:Cm P t ti=true)(he:ti.Db=true->ti.agg=true/\KeyLaw P t ti.bP):jl P t ti:=by
 unfold Cm at h;split at h
 ·rename_i i d j g;split at h
  ·rename_i z hz;simp only[bn,decide_eq_true_eq,fS,ij]at h;obtain⟨⟨⟨⟨⟨h1,h2⟩,h3⟩,h4⟩,h5⟩,h6⟩:=h;refine⟨⟨i,z,d,j,h1,h2,hz,wa h3,?_,g,?_⟩,he,?_⟩
   ·cases z<;>simp at h4<;>simp[h4,Value.cells]
   ·cases d<;>simp only[Ng,bn,decide_eq_true_eq,ij,cA]at h5
    case struct fields=>obtain⟨⟨a,b⟩,c⟩:=h5;refine⟨a,?_,eQ.1 c⟩;intro f;rw[<- b];simp
    case array n e=>obtain⟨⟨⟨a,b⟩,c⟩,d⟩:=h5;exact⟨a,b,c,d⟩
    case slice e=>obtain⟨⟨⟨a,b⟩,c⟩,d⟩:=h5;exact⟨a,b,c,d⟩
    case int k=>obtain⟨⟨a,b⟩,c⟩:=h5;exact⟨a,b,c⟩
    case bool=>obtain⟨⟨a,b⟩,c⟩:=h5;exact⟨a,b,c⟩
    case string=>obtain⟨⟨a,b⟩,c⟩:=h5;exact⟨a,b,c⟩
    case pointer e=>obtain⟨⟨a,b⟩,c⟩:=h5;exact⟨a,b,c⟩
    case map k e=>obtain⟨⟨⟨⟨a,b⟩,c⟩,d⟩,f⟩:=h5;exact⟨a,b,c,d,f⟩
    case func=>obtain⟨⟨a,b⟩,c⟩:=h5;exact⟨a,b,c⟩
   ·intro ha l;rcases h6 with(h6|h6)|h6
    ·exact absurd h6 l
    ·rw[ha]at h6;cases h6
    ·cases d<;>simp at h6
     exact⟨_,_,g⟩
  ·simp at h
 ·simp at h
def tG(P:Program):List (TypeId×TI)->Bool
 |[]=>true
 |(t,ti)::r=>Cm P t ti&&tG P r
def Ql{JB:List (TypeId×TI)}(h:tG P JB=true)(he:∀t ti,(t,ti)∈JB->ti.Db=true->ti.agg=true/\KeyLaw P t ti.bP):ez P (wJ JB):=by
 induction JB with
 |nil=>intro t ti h;simp[wJ]at h
 |cons x r a=>
  obtain⟨k,i⟩:=x;simp only[tG,bn]at h;intro t ti hf;simp only[wJ]at hf;cases hb:nb k t with
  |true=>rw[hb]at hf;simp at hf;subst hf;have:=cX hb;subst this;exact Gt h.1 (he k i yS)
  |false=>rw[hb]at hf;exact a h.2 (λt ti b=>he t ti (by simp[b])) t ti hf
def iM(P:Program):Nat->List Go.Field->List CK->Bool
 |_,[],[]=>true
 |k,f::fs,c::cs=>decide (f.offset=k)&&decide (f.name≠ "_")&&(match P.underlying f.type,c with
  |some (.int k),.int k'=>decide (k=k')
  |some .bool,.bool=>true
  |some .string,.str=>true
  |_,_=>false)&&iM P (k+1) fs cs
 |_,_,_=>false
def Dd(P:Program)(t:TypeId)(bP:List CK):Bool:=
 match P.underlying t with
 |some (.struct fs)=>iM P 0 fs.toList bP&& !(P.stoodInHeld t)&& !(P.eqGuardType P.depth t)
 |_=>false
def wK{P:Program}(w:World)(d:Nat):∀(fs:List Go.Field)(cs:List CK)(k:Nat)(us vs:List Value),iM P k fs cs=true->us.length=k+cs.length->vs.length=k+cs.length->
 (∀(j:Nat) c u,cs[j]? =some c->us[k+j]? =some u->isScalar c u)->(∀(j:Nat) c u,cs[j]? =some c->vs[k+j]? =some u->isScalar c u)->
 (Op.eqFields (d+1) ⟨us⟩ ⟨vs⟩ fs).run P w= .ok (GG (us.drop k) (vs.drop k)) w
 |[],[],k,us,vs,_,hu,p,_,_=>by rw[fH (by simp at hu;omega),fH (by simp at p;omega)];rfl
 |f::fs,c::cs,k,us,vs,h,hu,p,x,y=>by
  simp only[iM,bn,decide_eq_true_eq]at h;obtain⟨⟨⟨h1,h2⟩,h3⟩,h4⟩:=h;simp only[bI]at hu p;have o:k<us.length:=yO;have g:k<vs.length:=yO
  have z:=wK (P:=P) w d fs cs (k+1) us vs h4 (by omega) (by omega)
   (λj c u hc s=>x (j+1) c u (yU hc) (by rw[show k+(j+1)=k+1+j by omega];exact s))
   (λj c u hc s=>y (j+1) c u (yU hc) (by rw[show k+(j+1)=k+1+j by omega];exact s))
  have r:=x 0 c us[k] rfl (by simp[o]);have q:=y 0 c vs[k] rfl (by simp[g]);rw[bJ o,bJ g];have v:∀(l:List Value)(hl:k<l.length)(a:TypeDesc),P.underlying f.type=some a->(∀fs,a≠ .struct fs)->(∀n e,a≠ .array n e)->(part f.type ⟨l⟩ f.offset).run P w= .ok l[k] w:=by intro l hl a b i m;unfold part isAgg;simp only[Sem.run_bind,run_underlying b,Result.andThen_ok];cases a<;>first|exact absurd rfl (i _)|exact absurd rfl (m _ _)|simp[h1,hl]
  have fin:∀a,P.underlying f.type=some a->(∀fs,a≠ .struct fs)->(∀n e,a≠ .array n e)->(Op.equalIn (d+1) f.type us[k] vs[k]).run P w= .ok (XI us[k] vs[k]) w->
   (Op.eqFields (d+1) ⟨us⟩ ⟨vs⟩ (f::fs)).run P w= .ok (GG (us[k]::us.drop (k+1)) (vs[k]::vs.drop (k+1))) w:=by
   intro a b i m he;have e1:=v us o a b i m;have e2:=v vs g a b i m;simp only[Op.eqFields,if_pos h2,Sem.run_bind,e1,e2,Result.andThen_ok,he,GG];cases XI us[k] vs[k]with
   |true=>simpa using z
   |false=>simp
  split at h3
  ·rename_i A B b;obtain⟨i,e1⟩:=r;obtain⟨m,e2⟩:=q;refine fin _ b (λ_ h=>yC h) (λ_ _ h=>yC h) ?_;rw[e1,e2,run_equalIn_int w d f.type _ _ _ _ b];rfl
  ·rename_i b;obtain⟨i,e1⟩:=r;obtain⟨m,e2⟩:=q;refine fin _ b (λ_ h=>yC h) (λ_ _ h=>yC h) ?_;rw[e1,e2,run_equalIn_bool' w d f.type _ _ b];rfl
  ·rename_i b;obtain⟨i,e1⟩:=r;obtain⟨m,e2⟩:=q;refine fin _ b (λ_ h=>yC h) (λ_ _ h=>yC h) ?_;rw[e1,e2,run_equalIn_string w d f.type _ _ b,ByteArray.toList_eq,ByteArray.toList_eq];rfl
  ·simp at h3
 |[],_::_,_,_,_,h,_,_,_,_=>by simp[iM]at h
 |_::_,[],_,_,_,h,_,_,_,_=>by simp[iM]at h
def uc{P:Program}(w:World)(b:Bool):∀(fs:List Go.Field)(cs:List CK)(k:Nat)(us:List Value),iM P k fs cs=true->us.length=k+cs.length->
 (∀(j:Nat) c u,cs[j]? =some c->us[k+j]? =some u->isScalar c u)->
 (forIn (m:=Sem) fs kD (λf _=>if f.name≠ "_" then(do let x <-part f.type ⟨us⟩ f.offset;Instr.checkKey b 9999 f.type x;pure (p7 kD))else pure (p7 kD))).run P w= .ok kD w
 |[],_,_,_,_,_,_=>yS
 |f::fs,[],_,_,h,_,_=>by simp[iM]at h
 |f::fs,c::cs,k,us,h,hu,p=>by
  simp only[iM,bn,decide_eq_true_eq]at h;obtain⟨⟨⟨h1,h2⟩,h3⟩,h4⟩:=h;simp only[bI]at hu;have i:k<us.length:=yO;have r:=uc (P:=P) w b fs cs (k+1) us h4 (by omega) (λj c u hc s=>p (j+1) c u (by simpa using hc) (by rw[show k+(j+1)=k+1+j by omega];exact s));have l:=p 0 c us[k] rfl (by simp[i]);have q:∀(a:TypeDesc),P.underlying f.type=some a->(∀fs,a≠ .struct fs)->(∀n e,a≠ .array n e)->(part f.type ⟨us⟩ f.offset).run P w= .ok us[k] w:=by intro a d g o;unfold part isAgg;simp only[Sem.run_bind,run_underlying d,Result.andThen_ok];cases a<;>first|exact absurd rfl (g _)|exact absurd rfl (o _ _)|simp[h1,i]
  have fin:∀a,P.underlying f.type=some a->(∀fs,a≠ .struct fs)->(∀n e,a≠ .array n e)->(Instr.checkKey b 9999 f.type us[k]).run P w= .ok () w->
   (forIn (m:=Sem) (f::fs) kD (λf _=>if f.name≠ "_" then(do let x <-part f.type ⟨us⟩ f.offset;Instr.checkKey b 9999 f.type x;pure (p7 kD))else pure (p7 kD))).run P w= .ok kD w:=by
   intro a d g o he;have e1:=q a d g o;simp only[List.forIn_cons,if_pos h2,Sem.run_bind,e1,he,Result.andThen_ok,Sem.run_pure];exact r
  split at h3
  ·rename_i v y d;obtain⟨g,e1⟩:=l;refine fin _ d (λ_ h=>yC h) (λ_ _ h=>yC h) ?_;rw[e1,show (9999:Nat)=9998+1 from rfl,Instr.checkKey];simp only[Sem.run_bind,run_underlying d,Result.andThen_ok,Sem.run_pure]
  ·rename_i d;obtain⟨g,e1⟩:=l;refine fin _ d (λ_ h=>yC h) (λ_ _ h=>yC h) ?_;rw[e1,show (9999:Nat)=9998+1 from rfl,Instr.checkKey];simp only[Sem.run_bind,run_underlying d,Result.andThen_ok,Sem.run_pure]
  ·rename_i d;obtain⟨g,e1⟩:=l;refine fin _ d (λ_ h=>yC h) (λ_ _ h=>yC h) ?_;rw[e1,show (9999:Nat)=9998+1 from rfl,Instr.checkKey];simp only[Sem.run_bind,run_underlying d,Result.andThen_ok,Sem.run_pure]
  ·simp at h3
def Kj{bP:List CK}(h:Dd P t bP=true):KeyLaw P t bP:=by
 unfold Dd at h;split at h
 ·rename_i fs a;simp only[bn,ij]at h;obtain⟨⟨h1,h2⟩,h3⟩:=h;refine⟨⟨fs,a⟩,?_⟩;intro us vs w hu f c e;have hf:P.fieldsOf t=fs:=by simp[Program.fieldsOf,a]
  refine⟨?_,λb=>?_⟩
  ·have:=run_equalIn_struct (P:=P) w 9999 t ⟨us⟩ ⟨vs⟩ (by rw[hf];exact a) h2;rw[hf]at this;unfold Op.equal Op.maxDepth;rw[this];have:=wK (P:=P) w 9998 fs.toList bP 0 us vs h1 yO yO (yU c) (yU e);simpa using this
  ·have:=uc (P:=P) w b fs.toList bP 0 us h1 yO (yU c);rw[show (10000:Nat)=9999+1 from rfl,Instr.checkKey];simp only[Sem.run_bind,run_underlying a,Result.andThen_ok];rw[<- Array.forIn_toList];have d:∀{r:Result PUnit},r= .ok kD w->(r.andThen λ_ w'=>Sem.run P (pure ()) w')= .ok () w:=λh=>by rw[h];rfl
   exact d this
 ·simp at h
def pD(P:Program):List (TypeId×TI)->Bool
 |[]=>true
 |(t,ti)::r=>(!ti.Db||(ti.agg&&Dd P t ti.bP))&&pD P r
def Fq:∀{JB:List (TypeId×TI)},pD P JB=true->∀t ti,(t,ti)∈JB->ti.Db=true->ti.agg=true/\KeyLaw P t ti.bP
 |[],_,t,ti,h,_=>yE h
 |(k,i)::r,h,t,ti,hm,he=>by
  simp only[pD,bn,fS,ij]at h;rcases bx.1 hm with e|e
  ·cases e;rcases h.1 with h1|h1
   ·rw[he]at h1;simp at h1
   ·exact⟨h1.1,Kj h1.2⟩
  ·exact Fq h.2 t ti e he
end
section
variable [Inhabited pY]
open Go
def Dq(n0:Nat)(st b:St):Prop:=∃ps,(jD ps&&xF n0 0 ps)=true/\Sub n0 (vu ps st) b
section
variable {P:Program}{tt:TypeId->Option TI}{N n0:Nat}{B:jH}{E:List RI}{Pp:fQ}{w:World}{st:St}{a:Act}{ps:List Nat}
variable {α:Type}{Q:Ex->St->Prop}{c:Code}{G:dH}{A:pP}{C:jm}{L:Code->St->(Ex->St->Prop)->Prop}{st:St}{o:List Ob}{r:Option Nat}
def yq{ps:List Nat}{s:cS}(d:WR tt E Pp o w):∀b,own (ps.map λr=>E.getD r .row0) (vu ps ⟨s,o⟩).o b->own E o b:=by rintro b ⟨i,q,ri,h1,h2,h3,h4⟩;obtain⟨r,o',a1,a2,a3,a4⟩:=qG d h1 h2 h3;exact⟨r,o',ri,a2,a3,a4,h4⟩
def G9(I:α->St)(f:α->Prop)(j:α->Nat)(x0:α)(h0:f x0)(g:Dq n0 st (I x0))
 (round:∀x,f x->sB P tt N n0 r c (I x) λe d=>match e with| .normal=>∃k,f k/\j k<j x/\Dq n0 d (I k)| .exit i=>Q (.exit i) d| .ret=>Q .ret d):sB P tt N n0 r (.loop c) st Q:=
 za (Dq n0) (λ{B E Pp st m a w} hb h hk=>by obtain⟨ps,h1,h2⟩:=hk;exact⟨_,(h.pick hb h1).sub hb h2,λb l=>yq h.wr b (h2.own b l)⟩) I f j x0 h0 g round
def Ctx.ka(X:Ctx P G A C L)
 (I:α->St) (d:α->Prop) (g:α->Nat) (x0:α) (h0:d x0) (f:Dq G.n0 st (I x0))
 (round:∀x,d x->oA A G C L c (I x) λe b=>match e with| .normal=>∃h,d h/\g h<g x/\Dq G.n0 b (I h)| .exit i=>Q (.exit i) b| .ret=>Q .ret b):L (.loop c) st Q:=by
 obtain⟨rfl,rfl,⟨r,_,rfl⟩,j,k⟩:=X;exact G9 I d g x0 h0 f λx l=>GR j k c _ _ (round x l)
def Su(F:List Nat)(st:St):St:=match st with
 |⟨s,o⟩=>⟨nk F o s,fz F 0 o⟩
def NU(n0:Nat)(st b:St):Prop:=∃d F,Dq n0 (Su F (sinks d st)) b
def Kn{F:List Nat}{b:Nat}(h:own E (fz F 0 o) b):own E o b:=by
 obtain⟨i,q,ri,h1,h2,h3,h4⟩:=h;rw[ju]at h1;cases d:o[i]? with
 |none=>rw[d]at h1;simp at h1
 |some x=>
  rw[d]at h1;simp only[cv,cw]at h1;refine⟨i,x,ri,d,?_,h3,h4⟩;cases hm:eI (0+i) F<;>rw[hm]at h1<;>simp only[cond_true,cond_false]at h1
  ·rw[h1];exact h2
  ·subst h1;cases x<;>simp_all[wH,Ob.live]
def gW.Ug{d:St}(hb:B.E0.length=n0)(h:gW tt N B E Pp st a w)(hk:NU n0 st d):∃E' Pp',gW tt N B E' Pp' d a w/\∀b,own E' d.o b->own E st.o b:=by obtain⟨f,F,ps,h1,h2⟩:=hk;obtain⟨Pp1,g,q,p,k⟩:=tJ f h.Ih h.fJ;generalize j:sinks f st=st1 at*;obtain⟨n,i⟩:=st1;have m:=g.nM F;have l:=uh g.wr (F:=F) p;have hs:=cK.Oh (st:=⟨nk F i n,fz F 0 i⟩) m l h.size h.defers;exact⟨_,_,(hs.pick hb h1).sub hb h2,λb e=>k b (Kn (yq hs.wr b (h2.own b e)))⟩
def Ha(I:α->St)(m:α->Prop)(n:α->Nat)(x0:α)(h0:m x0)(q:NU n0 st (I x0))
 (round:∀x,m x->sB P tt N n0 r c (I x) λe f=>match e with| .normal=>∃l,m l/\n l<n x/\NU n0 f (I l)| .exit i=>Q (.exit i) f| .ret=>Q .ret f):sB P tt N n0 r (.loop c) st Q:=by
 intro B E Pp a w hb hs;obtain⟨R,Pp1,v,K⟩:=hs.Ug hb q;refine AL (λx t w'=>∃E Pp,m x/\gW tt N (B.at t.defers) E Pp (I x) t w'/\Mk w a.defers E (I x).o t.defers w'/\w.heap.size<=w'.heap.size) n x0 ⟨R,Pp1,h0,v.at,Mk.none rfl,bX _⟩ ?_;rintro x a1 z ⟨E,Pp,M,hs,O,hz⟩;refine wpIn_mono (round x M (B.here E Pp (I x).o a1.defers z) E Pp a1 z hb hs.here) ?_;rintro e a2 S ⟨D,j,E2,h,he,k,F,s,y⟩;have g:=gW.back (B:=B.at a1.defers) hs k;have b:=Mk.trans hz O k F;have d:=bM hz s;cases e<;>cases D<;>simp only[uq]at he
 ·obtain⟨l,h1,h2,h3⟩:=y;obtain⟨H,u,p,J⟩:=gW.Ug (B:=B.at a2.defers) hb g h3;exact⟨l,⟨H,u,h1,p,b.sub J,d⟩,h2⟩
 ·subst he;exact⟨.exit _,j,E2,h,rfl,g,b,d,y⟩
 ·exact⟨.ret,j,E2,h,trivial,g,b,d,y⟩
def Ctx.Mq(X:Ctx P G A C L)
 (I:α->St) (d:α->Prop) (g:α->Nat) (x0:α) (h0:d x0) (f:NU G.n0 st (I x0))
 (round:∀x,d x->oA A G C L c (I x) λe b=>match e with| .normal=>∃h,d h/\g h<g x/\NU G.n0 b (I h)| .exit i=>Q (.exit i) b| .ret=>Q .ret b):L (.loop c) st Q:=by
 obtain⟨rfl,rfl,⟨r,_,rfl⟩,j,k⟩:=X;exact Ha I d g x0 h0 f λx l=>GR j k c _ _ (round x l)
def Ctx.cut(X:Ctx P G A C L)
 (I:α->St) (i:α->Prop) {id:Nat}{g:Array Oper}{d:Bool}
 (h1:GO A G C id g d st λf=>∃x,i x/\Dq G.n0 f (I x)) (h2:∀x,i x->Q .normal (I x)):L (.region id g d) st Q:=by
 obtain⟨rfl,rfl,⟨r,_,rfl⟩,l,p⟩:=X;intro B E Pp a w hb hs;refine wpIn_mono (Iu l p id g d st (λe f=>match e with| .normal=>∃x,i x/\Dq G.n0 f (I x)|_=>False) h1 B E Pp a w hb hs) ?_;rintro e n w' ⟨q,f,E',Pp',he,h,j,hz,m⟩;cases q<;>simp only at m
 obtain⟨x,h3,ps,h4,h5⟩:=m;exact⟨.normal,I x,_,Pp',he,(gW.pick (B:=B.at n.defers) hb h h4).sub (B:=B.at n.defers) hb h5,j.sub (λb k=>yq h.wr b (h5.own b k)),hz,h2 x h3⟩
end
end
section
variable [Inhabited pY]
open Go
def gO(T:List Nat):List Ob->Nat->List Nat
 |[],_=>[]
 | .row e _ _::l,i=>(match eI e T with|true=>gO T l (i+1)|false=>i::gO T l (i+1))
 |_::l,i=>gO T l (i+1)
abbrev x8:=gO []
def Ol(R:List Nat)(n j:Nat):Nat:=match r7 R n j with|some k=>k|none=>j
def Yh(T:List Nat)(f:Nat->Nat):Ob->Ob
 | .row e d w=>(match eI e T with|true=>.row e d w|false=>.dead)
 |o=>oK f o
def EG(T:List Nat)(R:List Nat)(n:Nat)(objs:List Ob):List Ob:=gh (cQ (Yh T (Ol R n)) objs) (cQ (eG objs) R)
abbrev mvO:=EG []
def IX(T:List Nat)(objs:List Ob)(args:List PV):St:=⟨mg 0 (cQ (qB (Ol (gO T objs 0) (bY objs)) 8) args),EG T (gO T objs 0) (bY objs) objs⟩
def vF(objs:List Ob)(args:List PV):St:=IX [] objs args
def Fa:Nat->Nat->List Nat
 |0,_=>[]
 |n+1,k=>k::Fa n (k+1)
def Us:Ob->List Nat
 | .box cs=>eT (oL 8) cs
 | .loop _ _ _ _ s _=>eT (λ(x:Nat×PV)=>oL 8 x.2) s
 |_=>[]
def E7(n0:Nat)(st:St)(v:PV):List Nat:=reach st.o 64 (gh (oL 8 v) (eT (λi=>Us (eG st.o i)) (Fa n0 0))) (Fa n0 0)
def Aq(n0:Nat)(v:PV)(o:List Ob)(ps:List Nat)(K:PV->List Ob->Prop):Prop:=bif jD ps&&xF n0 0 ps then K (jx ps 8 v) (cQ (λr=>jK ps (eG o r)) ps)else False
def lh(G:dH)(n0:Nat)(rs:List ResultVar)(st:St)(K:PV->List Ob->Prop):Prop:=match yb G st rs with
 |some v=>Aq n0 v st.o (E7 n0 st v) K
 |none=>False
section
variable {P:Program}{tt:TypeId->Option TI}{G:dH}{N:Nat}{B:jH}{E:List RI}{Pp:fQ}{objs:List Ob}{w:World}{st:St}{a:Act}
variable {args gU:List PV}{fn:Func}{K:PV->List Ob->Prop}{G:dH}{c1 c2 m:Code}{ps:List Nat}{f:FuncId}{n:Nat}{objs os:List Ob}{s:cS}{A:pP}{C:jm}{L:Code->St->(Ex->St->Prop)->Prop}{g:Operand}{Q:Ex->St->Prop}
def sP(T:List Nat):∀(l:List Ob)(k r:Nat),r∈gO T l k↔∃i e d wr,r=k+i/\l[i]? =some (.row e d wr)/\eI e T=false
 |[],k,r=>by simp[gO]
 |o::l,k,r=>by
  have c:=sP T l (k+1) r
  have key:(∃i e d wr,r=k+i/\(o::l)[i]? =some (.row e d wr)/\eI e T=false)↔((∃e d wr,r=k/\o= .row e d wr/\eI e T=false)\/∃i e d wr,r=k+1+i/\l[i]? =some (.row e d wr)/\eI e T=false):=by
   constructor
   ·rintro⟨i,e,d,wr,h1,h2,h3⟩;cases i with
    |zero=>exact .inl ⟨e,d,wr,h1,yU h2,h3⟩
    |succ i=>exact .inr ⟨i,e,d,wr,yO,yU h2,h3⟩
   ·rintro(⟨e,d,wr,h1,h2,h3⟩|⟨i,e,d,wr,h1,h2,h3⟩)
    ·exact⟨0,e,d,wr,h1,by simp[h2],h3⟩
    ·exact⟨i+1,e,d,wr,yO,yU h2,h3⟩
  rw[key,<-c];cases o with
  |row e d w=>
   simp only[gO];cases hm:eI e T with
   |true=>
    constructor
    ·intro h;exact .inr h
    ·rintro(⟨e',d',b,_,h2,h3⟩|h)
     ·cases h2;rw[hm]at h3;cases h3
     ·exact h
   |false=>
    simp only[bx];constructor
    ·rintro(rfl|h)
     ·exact .inl ⟨e,d,w,rfl,rfl,hm⟩
     ·exact .inr h
    ·rintro(⟨e',d',b,h1,h2,h3⟩|h)
     ·exact .inl h1
     ·exact .inr h
  |_=>simp[gO]
def GI(T:List Nat):∀(l:List Ob)(k r:Nat),r∈gO T l k->k<=r:=by intro l k r h;obtain⟨i,_,_,_,h1,_⟩:=(sP T l k r).1 h;omega
def tN(T:List Nat):∀(l:List Ob)(k:Nat),(gO T l k).Nodup
 |[],_=>oC
 |o::l,k=>by
  have b:=tN T l (k+1);cases o<;>simp only[gO]<;>first|exact b|skip
  split
  ·exact b
  rw[cq];exact⟨λh=>by have:=GI T l (k+1) k h;omega,b⟩
def WR.mv(T:List Nat)(hw:WR tt E Pp objs w):∃E1,pM E E1/\(∀(i:Nat) x,E[i]? =some x->E1[Ol (gO T objs 0) (bY objs) i]? =some x)/\WR tt E1 Pp (EG T (gO T objs 0) (bY objs) objs) w/\
 ∀b,own E1 (EG T (gO T objs 0) (bY objs) objs) b->own E objs b:=by
 generalize hR:gO T objs 0=R;have Yy:R.Nodup:=hR▸tN T objs 0;have UR:∀r∈R,∃e d wr,objs[r]? =some (.row e d wr)/\eI e T=false:=by intro r hr;rw[<- hR]at hr;obtain⟨i,e,d,wr,h1,h2,h3⟩:=(sP T objs 0 r).1 hr;rw[h1,dY];exact⟨e,d,wr,h2,h3⟩
 have hl:=hw.len;rw[cL];have XV:∀(i:Nat) x,E[i]? =some x->(E++R.map λr=>E.getD r .row0)[i]? =some x:=λi x h=>ga h;have Yz:∀(k r:Nat) x,R[k]? =some r->E[r]? =some x->(E++R.map λr=>E.getD r .row0)[objs.length+k]? =some x:=by intro k r x hk hx;rw[<- hl];exact kT (qH hk hx)
 have hf:∀(i:Nat) x,E[i]? =some x->(E++R.map λr=>E.getD r .row0)[Ol R objs.length i]? =some x:=by
  intro i x hx;unfold Ol;split
  ·rename_i k hk;obtain⟨j,rfl,hj⟩:=vI hk;exact Yz j i x hj hx
  ·exact XV i x hx
 have Nw:∀(i:Nat) o,(EG T R objs.length objs)[i]? =some o->o.live=true->(i<objs.length/\∃o',objs[i]? =some o'/\o'.live=true/\(∀e d wr,o'= .row e d wr->eI e T=true)/\o=oK (Ol R objs.length) o')\/
  ∃k r,i=objs.length+k/\R[k]? =some r/\objs[r]? =some o/\∃e d wr,o= .row e d wr/\eI e T=false:=by
  intro i o ho Sv;unfold EG at ho;rw[eU]at ho;rcases jw ho with⟨h1,h2⟩|⟨k,h1,h2⟩
  ·rw[gP,bA]at h1;rw[gP,cC]at h2;cases hx:objs[i]? with
   |none=>rw[hx]at h2;simp at h2
   |some o'=>
    rw[hx]at h2;simp only[cv,cw]at h2;refine .inl ⟨h1,o',rfl,?_⟩;cases o' with
    |row e d w=>
     simp only[Yh]at h2;cases hm:eI e T with
     |true=>rw[hm]at h2;subst h2;exact⟨rfl,(λ_ _ _ h=>by cases h;exact hm),rfl⟩
     |false=>rw[hm]at h2;subst h2;cases Sv
    |_=>simp only[Yh]at h2;subst h2;first|(simp[oK,Ob.live]at Sv;done)|exact⟨rfl,(λ_ _ _ h=>yC h),rfl⟩
  ·rw[gP,bA]at h1;rw[gP,cC]at h2;cases hx:R[k]? with
   |none=>rw[hx]at h2;simp at h2
   |some r=>
    rw[hx]at h2;simp only[cv,cw]at h2;obtain⟨e,d,wr,hr,hm⟩:=UR r (fA hx);have hg:eG objs r= .row e d wr:=by rw[rO];simp[cx,hr]
    rw[hg]at h2;subst h2;exact .inr ⟨k,r,h1,hx,hr,e,d,wr,rfl,hm⟩
 have src:∀(i:Nat) o ri,(EG T R objs.length objs)[i]? =some o->o.live=true->(E++R.map λr=>E.getD r .row0)[i]? =some ri->∃j o',objs[j]? =some o'/\o'.live=true/\E[j]? =some ri/\
  ((i=j/\i<objs.length/\∀e d wr,o'= .row e d wr->eI e T=true)\/∃k e d wr,i=objs.length+k/\R[k]? =some j/\o'= .row e d wr/\eI e T=false):=by
  intro i o ri ho Sv TV;rcases Nw i o ho Sv with⟨h1,o',h2,h3,h4,_⟩|⟨k,r,rfl,h2,h3,e,d,wr,rfl,hm⟩
  ·obtain⟨ri',MV,_⟩:=hw.ob i o' h2 h3;have:=XV i ri' MV;rw[TV]at this;cases this;exact⟨i,o',h2,h3,MV,.inl ⟨rfl,h1,h4⟩⟩
  ·obtain⟨ri',MV,_⟩:=hw.ob r _ h3 rfl;have:=Yz k r ri' h2 MV;rw[TV]at this;cases this;exact⟨r,_,h3,rfl,MV,.inr ⟨k,e,d,wr,rfl,h2,rfl,hm⟩⟩
 refine⟨E++R.map λr=>E.getD r .row0,.of XV,hf,⟨?_,hw.pi,?_,?_,hw.gl⟩,?_⟩
 ·simp[EG,eU,gP,hl]
 ·intro i o ho Sv;rcases Nw i o ho Sv with⟨h1,o',h2,h3,h4,rfl⟩|⟨k,r,rfl,h2,h3,e,d,wr,rfl,hm⟩
  ·obtain⟨ri,TV,Yr⟩:=hw.ob i o' h2 h3;exact⟨ri,XV i ri TV,OR.oK hf Sv Yr⟩
  ·obtain⟨ri,TV,Yr⟩:=hw.ob r _ h3 rfl;exact⟨ri,Yz k r ri h2 TV,Yr.goes rfl rfl⟩
 ·intro i j oi oj ri rj b hi hj hli hlj hEi hEj hbi hbj;obtain⟨i',oi',h1,h2,h3,h4⟩:=src i oi ri hi hli hEi;obtain⟨j',oj',k1,k2,k3,k4⟩:=src j oj rj hj hlj hEj;have:=hw.sep i' j' oi' oj' ri rj b h1 k1 h2 k2 h3 k3 hbi hbj;subst this;rw[h1]at k1;cases k1;rcases h4 with⟨rfl,_,h5⟩|⟨k,e,d,wr,rfl,h6,rfl,h7⟩<;>rcases k4 with⟨rfl,_,k5⟩|⟨k',e',d',wr',rfl,k6,e1,k7⟩
  ·rfl
  ·rw[h5 _ _ _ e1]at k7;cases k7
  ·rw[k5 _ _ _ rfl]at h7;cases h7
  ·rw[G2 Yy h6 k6]
 ·rintro b ⟨i,o,ri,h1,h2,h3,h4⟩;obtain⟨j,o',k1,k2,k3,_⟩:=src i o ri h1 h2 h3;exact⟨j,o',ri,k1,k2,k3,h4⟩
 where G2 {l:List Nat} (h:l.Nodup) {i j x:Nat} (hi:l[i]? =some x) (hj:l[j]? =some x):i=j:=
 (QH (dr.1 hi).1 h).1 (hi.trans hj.symm)
def Lw(T:List Nat)(u:fn.ntmps=G.n)(c:iD (bY args) G.n=true):∀E Pp w vals,WR G.tt E Pp objs w->eM G.tt E Pp vals args->∃d,gW G.tt G.n { w0:=w,E0:=E,P0:=Pp,mo:=own E objs } d Pp (IX T objs args) ⟨(⟨vals⟩:Array Value)++hY (fn.ntmps-(⟨vals⟩:Array Value).size) undef,[]⟩ w:=by intro E Pp w vals j e;have l:=e.length;rw[cL]at c;have p:=dX c;obtain⟨d,h1,h2,h3,h4⟩:=j.mv T;exact⟨d,h3,Fc (tQ h2 e),yQ,rfl,h1,λ_ _ h=>h,Fr.refl _ _,λad v h=>.inl h,λi o ri b q t r k=>.inr (h4 b ⟨i,o,ri,q,t,r,k⟩)⟩
def RT(c:fn.ntmps=G.n)(b:iD (bY args) G.n=true):∀E Pp w vals,WR G.tt E Pp objs w->eM G.tt E Pp vals args->∃d,gW G.tt G.n { w0:=w,E0:=E,P0:=Pp,mo:=own E objs } d Pp (vF objs args) ⟨(⟨vals⟩:Array Value)++hY (fn.ntmps-(⟨vals⟩:Array Value).size) undef,[]⟩ w:=Lw [] c b
def CJ{v:Value}{pv:PV}{E':List RI}{Pp':fQ}{w':World}{o':List Ob}{d:List Deferred}{s':cS}{i:Act}(c:WR tt E Pp objs w)
 (hs:gW tt N { w0:=w,E0:=E,P0:=Pp,mo:=own E objs,d0:=d } E' Pp' ⟨s',o'⟩ i w') (e:VR tt E' Pp' v pv) (h:Aq objs.length pv o' ps K):lV tt E Pp objs w K (.returned v) w':=by
 unfold Aq at h;cases hb:(jD ps&&xF objs.length 0 ps)with
 |false=>rw[hb]at h;exact h.elim
 |true=>rw[hb]at h;have b:=hs.pick (n0:=objs.length) c.len hb;simp only[bn]at hb;exact⟨v,_,Pp',_,_,rfl,b.pre,b.sT,b.wr,tT (λ_ _ _=>pw) 8 _ _ e,h,b.fr,b.jV,b.fresh⟩
def FC.Kt(i:ez P G.tt)(o:P.follows .mixedOrders=true){c:Code}(hf:Has P f fn c)(t:fn.ntmps=G.n)(b:bY objs=G.n0)(l:iD (bY args) G.n=true)
 (h:∀(A:pP)(C:jm)(L:Code->St->(Ex->St->Prop)->Prop),Ctx P G A C L->
   oA A G C L c (vF objs args) λe st=>match e with| .exit _=>False|_=>lh G G.n0 fn.results.toList st K):FC P G.tt f objs args K:=by
 rw[cL]at b;refine Du (λ_ _ _ h=>h) i o hf.name hf.f hf.b b _ (RT t l) (h _ _ _ ⟨rfl,rfl,⟨_,λ_=>rfl,rfl⟩,i,o⟩) ?_;intro E Pp w E' Pp' k u w' d q hr j;unfold lh at hr;split at hr
 ·rename_i p r;obtain⟨v,h1,h2⟩:=tP i j r;rw[<- b]at hr;exact⟨v,h1,CJ q (s':=k.s) (o':=k.o) j h2 hr⟩
 ·exact hr.elim
def setArgs:cS->List Nat->List PV->cS
 |s,t::ts,p::ps=>setArgs ((t,p)::s) ts ps
 |s,_,_=>s
def po(s:cS)(ps:List Nat)(objs:List Ob)(args:List PV):St:=⟨setArgs (JV (Ol (x8 objs 0) (bY objs)) s) ps (cQ (qB (Ol (x8 objs 0) (bY objs)) 8) args),mvO (x8 objs 0) (bY objs) objs⟩
def iI(st:St)(j:LS)(b:LS)(K:St->Prop):Prop:=match eG st.o 0 with
 | .loop n ps c1 c2 s i=>(match i,j with
  | .ready,.ready=>K ⟨st.s,il st.o 0 (.loop n ps c1 c2 s b)⟩
  | .busy,.busy=>K ⟨st.s,il st.o 0 (.loop n ps c1 c2 s b)⟩
  |_,_=>False)
 |_=>False
def mT(n0:Nat)(e:Ex)(st:St)(K:PV->List Ob->Prop):Prop:=match e with
 | .normal=>iI st .busy .ready λst=>Aq n0 (.bl true) st.o (E7 n0 st (.bl true)) K
 | .ret=>iI st .busy (.done .ret) λst=>Aq n0 (.bl false) st.o (E7 n0 st (.bl false)) K
 | .exit id=>iI st .busy (.done (.exit id)) λst=>Aq n0 (.bl false) st.o (E7 n0 st (.bl false)) K
def vT(n:Nat):List Nat->Bool
 |[]=>true
 |x::l=>iC x n&&vT n l
def xU{E:List RI}{Pp:fQ}:∀(ps:List Nat)(args:List PV)(vals:List Value)(tmps:Array Value)(s:cS),(∀t,VR tt E Pp (tmps.getD t undef) (look s t))->eM tt E Pp vals args->ps.length=args.length->(∀t∈ps,t<tmps.size)->
 (∀t,VR tt E Pp (((ps.zip vals).foldl (λ(tmps:Array Value) (x:Nat×Value)=>tmps.setIfInBounds x.1 x.2) tmps).getD t undef) (look (setArgs s ps args) t))/\((ps.zip vals).foldl (λ(tmps:Array Value) (x:Nat×Value)=>tmps.setIfInBounds x.1 x.2) tmps).size=tmps.size
 |[],[],_,tmps,s,hs,c,_,_=>by cases c;exact⟨hs,rfl⟩
 |p::ps,q::args,_,tmps,s,hs,c,hl,dA=>by
  cases c with
  |cons v _ vals _ d b=>
   have i:=dA p yS
   have:=xU ps args vals (tmps.setIfInBounds p v) ((p,q)::s) (by
    intro t;rw[jt];simp only[cO,AK];split
    ·rename_i e;subst e;simp[i];exact d
    ·rename_i e;simpa only[cO]using hs t) b (yU hl) (λt j=>by simpa using dA t (by simp[j]))
   refine⟨this.1,this.2.trans yS⟩
 |[],_::_,_,_,_,_,_,h,_=>yE h
 |_::_,[],_,_,_,_,_,h,_=>yE h
def gW.iI{B:jH}{w:World}{j p:LS}{K:St->Prop}(h:gW tt N B E Pp st a w)(hc:VC.iI st j p K):∃(l:Nat) (r:Loop) (d:St),E[0]? =some (.loop l)/\w.heap[l]? =some (.loop r)/\K d/\d.s=st.s/\
 Rk j r.state/\∀(z:LoopState)(p2:Option Code),WT p z p2->gW tt N B E Pp d a (w.putObj l (.loop { r with state:=z,pending:=p2 })):=by
 unfold VC.iI at hc;split at hc
 ·rename_i n ps c1 c2 s i H;have c:=di H rfl;obtain⟨ri,o,u⟩:=h.wr.ob 0 _ c rfl;cases ri<;>try exact u.elim
  rename_i l;obtain⟨r,h1,h2,h3⟩:=u
  have x:Rk j r.state/\K ⟨st.s,il st.o 0 (.loop n ps c1 c2 s p)⟩:=by
   split at hc
   ·exact⟨h2.state.1,hc⟩
   ·exact⟨h2.state,hc⟩
   ·exact hc.elim
  refine⟨l,r,⟨st.s,il st.o 0 (.loop n ps c1 c2 s p)⟩,o,h1,x.2,rfl,x.1,?_⟩
  ·intro z p2 y;generalize t:({ r with state:=z,pending:=p2 }:Loop)=r2
   have dA:l<w.heap.size:=by
    rcases bR l w.heap.size with D|D
    ·exact D
    ·simp[cR D]at h1
   have I:=cB c;have same:∀k,k≠l->(w.putObj l (.loop r2)).heap[k]? =w.heap[k]? :=λk hk=>World.putObj_heap_other hk;refine cK.Oh (st:=⟨st.s,il st.o 0 (.loop n ps c1 c2 s p)⟩) ?_ h.fJ h.size h.defers;simp only[gw];refine h.Ih.An c rfl o rfl (λ_ _=>rfl) o (.inl (.refl _)) yS ?_ (by rw[bT I]) (λ_=>?_) rfl rfl rfl (by simp[World.putObj]) ?_ (λ_ _ h=>h) (λ_ _ h=>.inl h) (λ_ hb=>.inl hb) ?_
   ·intro j oj M q J;rw[bQ (dZ M)]at q;exact⟨oj,q,J,λ_ _ h=>h⟩
   ·refine⟨r2,World.putObj_heap_same dA,?_,?_⟩
    ·rw[<- t];exact⟨h2.size,h2.params,h2.assign,h2.body,y⟩
    ·rw[<- t];exact h3
   ·intro b _ F;exact same b (λe=>F (by rw[e];rfl))
   ·intro ad v O;have hc:=h.wr.pi ad v O;rw[ia (same ad.block ?_)]
    ·exact hc
    ·intro e;simp[pc,e,h1]at hc
 ·exact hc.elim
def YC.Na(S:ez P G.tt)(hm:P.follows .mixedOrders=true)(hN:nb n G.n=true)(D:nb (bY os+1) G.n0=true)(p:nb (bY args) (bY ps)=true)(dA:vT n ps=true)
 (h:∀l:Nat,∃LP:Code->St->(Ex->St->Prop)->Prop,(∀c st Q,LP c st Q->sB P G.tt G.n G.n0 (some l) c st Q)/\
   oA Std G (lU P G.tt) LP c1 (po s ps (.loop n ps c1 c2 s .ready::os) args) λe st=>match e with
    | .normal=>iI st .ready .busy λst=>oA Std G (lU P G.tt) LP c2 st λe st=>mT G.n0 e st K
    |_=>False):YC P G.tt (.loop n ps c1 c2 s .ready::os) args K:=by
 intro E Pp w vals l rec M hE T hv;obtain⟨ri,V,ae⟩:=M.ob 0 _ rfl rfl;rw[hE]at V;cases V;obtain⟨ao,h1,h2,h3⟩:=ae;rw[T]at h1;cases h1;have hN:=cX hN;have D:=cX D;have p:=cX p;rw[cL]at D;rw[cL,cL]at p;have aw:ps.length=rec.params.size:=by rw[<- h2.params];simp
 have aA:=hv.length;refine⟨yO,?_⟩;obtain⟨E1,q1,q2,q3,q4⟩:=M.mv []
 have U:∀(l:List Nat),vT n l=true->∀t∈l,t<n:=by
  intro l;induction l with
  |nil=>intro _ t u;simp at u
  |cons x l ih=>
   intro h t u;simp only[vT,bn]at h;rcases bx.1 u with rfl|u
   ·exact dX h.1
   ·exact ih h.2 t u
 have J:=xU (tt:=G.tt) (E:=E1) (Pp:=Pp) ps (cQ (qB (Ol (x8 (.loop n ps c1 c2 s .ready::os) 0) (bY (.loop n ps c1 c2 s .ready::os))) 8) args) vals rec.tmps (JV (Ol (x8 (.loop n ps c1 c2 s .ready::os) 0) (bY (.loop n ps c1 c2 s .ready::os))) s)
  (λt=>by rw[A5];exact xh q2 8 _ _ (h3 t)) (tQ q2 hv) (by rw[fX];omega) (λt u=>by rw[h2.size];exact U ps dA t u)
 have z:(rec.params.zip (⟨vals⟩:Array Value)).foldl (λtmps (t,a)=>tmps.setIfInBounds t a) rec.tmps=(ps.zip vals).foldl (λ(tmps:Array Value) (x:Nat×Value)=>tmps.setIfInBounds x.1 x.2) rec.tmps:=by rw[<- vZ,Array.toList_zip,h2.params]
 rw[z];obtain⟨rfl,rfl⟩:rec.assign=c1/\rec.body=c2:=⟨h2.assign,h2.body⟩;refine roundIn_of_wpIn trivial ?_;have ab:gW G.tt G.n { w0:=w,E0:=E,P0:=Pp,mo:=own E (.loop n ps rec.assign rec.body s .ready::os) } E1 Pp (po s ps (.loop n ps rec.assign rec.body s .ready::os) args) ⟨(ps.zip vals).foldl (λ(tmps:Array Value) (x:Nat×Value)=>tmps.setIfInBounds x.1 x.2) rec.tmps,[]⟩ w:=⟨q3,J.1,by rw[J.2,h2.size,hN],rfl,q1,λ_ _ h=>h,Fr.refl _ _,λad v h=>.inl h,λi o ri b Y r2 r3 r4=>.inr (q4 b ⟨i,o,ri,Y,r2,r3,r4⟩)⟩;have y:E.length=G.n0:=by rw[M.len];simp;omega
 obtain⟨LP,hL,h⟩:=h l;have H:∀{B:jH}{E':List RI}{Pp':fQ}{R:St}{a':Act}{w':World},B.E0=E->gW G.tt G.n B E' Pp' R a' w'->E'[0]? =some (.loop l):=by intro B E' Pp' R a' w' hB hs;have:=hs.pre;rw[hB]at this;exact this.loop hE
 refine wpIn_mono (rC (r:=some l) S hm hL _ _ _ h _ E1 Pp _ w y ab) ?_;rintro e a1 w1 ⟨X,ay,E2,Z,he,O,_,_,W⟩;cases e<;>cases X<;>simp only[uq]at he<;>try exact W.elim
 obtain⟨l1,Y,ak,b1,b2,b3,_,b5,b6⟩:=O.iI W;have:=H rfl O;rw[b1]at this;cases this;refine⟨_,run_beginRound b2 b5,?_⟩;have af:=b6 .busy Y.pending rfl;refine wpIn_mono (rC (r:=some l) S hm hL _ _ _ b3 _ E2 Z _ _ y af.at) ?_;rintro e a2 w2 ⟨X,aa,E3,aC,he,I,_,_,F⟩
 have k:∀(j:LS)(d:Option Code)(b:Bool),(match j with| .ready=>d=none| .done c=>d=some c| .busy=>False)->(b=d.isNone)->iI aa .busy j (λst=>Aq G.n0 (.bl b) st.o (E7 G.n0 st (.bl b)) K)->
  ∃v w',(Instr.endRound l d).run P w2= .ok v w'/\lV G.tt E Pp (.loop n ps rec.assign rec.body s .ready::os) w K (.returned v) w':=by
  intro j d b hj hb W;subst hb;obtain⟨l2,r2,q,d1,d2,d3,_,d5,d6⟩:=I.iI W;have:=H rfl I;rw[d1]at this;cases this;refine⟨_,_,run_endRound d d2,?_⟩
  have ac:=d6 (if d.isNone then .ready else .done) d (by
   cases j<;>simp only at hj
   ·subst hj;exact⟨rfl,rfl⟩
   ·subst hj;exact⟨rfl,rfl⟩)
  rw[<- y,M.len]at d3;exact CJ M (s':=q.s) (o':=q.o) ac (.bl _) d3
 cases e<;>cases X<;>simp only[uq]at he
 ·exact k .ready none true rfl rfl F
 ·subst he;exact k (.done (.exit _)) (some (.exit _)) false rfl rfl F
 ·exact k (.done .ret) (some .ret) false rfl rfl F
def YC.enter(d:ez P G.tt)(j:P.follows .mixedOrders=true)(c:G.DB=true)(k:nb n G.n=true)(i:nb (bY os+1) G.n0=true)(b:nb (bY args) (bY ps)=true)(dA:vT n ps=true)
 (h:∀(A:pP)(C:jm)(L:Code->St->(Ex->St->Prop)->Prop),Ctx P G A C L->
   oA A G C L c1 (po s ps (.loop n ps c1 c2 s .ready::os) args) λe st=>match e with
    | .normal=>iI st .ready .busy λst=>oA A G C L c2 st λe st=>mT G.n0 e st K
    |_=>False):YC P G.tt (.loop n ps c1 c2 s .ready::os) args K:=
 YC.Na d j k i b dA λl=>⟨_,λ_ _ _ h=>h,h _ _ _ ⟨rfl,rfl,⟨some l,(λh=>by rw[c]at h;cases h),rfl⟩,d,j⟩⟩
def Ctx.round(X:Ctx P G A C L)(h:YC P G.tt objs args K):C .kF objs args K:=by rw[X.c];exact h
def qD(n:Nat)(st:St)(Q:Ex->St->Prop):Prop:=match eG st.o n with
 | .loop _ _ _ _ _ j=>(match j with
  | .ready=>Q .normal ⟨st.s,il st.o n .dead⟩
  | .done .ret=>Q .ret ⟨st.s,il st.o n .dead⟩
  | .done (.exit id)=>Q (.exit id) ⟨st.s,il st.o n .dead⟩
  |_=>False)
 |_=>False
def yd(G:dH)(C:jm)(f:FuncId)(gU:List PV)(ps:Array Tmp)(c1 c2:Code)(c:cS)(st:St)(Q:Ex->St->Prop):Prop:=vG C (.fn f) (.kF (bY st.o)::gU) st.s (gh st.o [.loop G.n ps.toList c1 c2 c .ready]) λ_ b=>qD (bY st.o) b Q
def cK.Nd{l:Nat}{ob:Ob}{r2:Loop}(h:cK tt B E Pp objs w)(p:objs[n]? =some ob)(o:E[n]? =some (.loop l))(hl:ob.live=true):cK tt B E Pp (objs.set n .dead) (w.putObj l (.loop r2)):=by
 obtain⟨ri,i,d⟩:=h.wr.ob n _ p hl;rw[o]at i;cases i;have t:∃k ps c1 c2 s j,ob= .loop k ps c1 c2 s j:=by cases ob<;>first|exact⟨_,_,_,_,_,_,rfl⟩|exact d.elim
 obtain⟨k,ps,c1,c2,s,j,rfl⟩:=t;obtain⟨r,h1,_⟩:=d;have I4:=cB p;have same:∀k,k≠l->(w.putObj l (.loop r2)).heap[k]? =w.heap[k]? :=λk hk=>World.putObj_heap_other hk;refine h.An (o':=.dead) p rfl o rfl (λ_ _=>rfl) o (.inl (.refl _)) yS ?_ (by rw[bT I4]) (λh=>yC h) rfl rfl rfl (by simp[World.putObj]) ?_ (λ_ _ h=>h) (λ_ _ h=>.inl h) (λ_ hb=>.inl hb) ?_
 ·intro j oj x c u;rw[bQ (dZ x)]at c;exact⟨oj,c,u,λ_ _ h=>h⟩
 ·intro b _ q;exact same b (λe=>q (by rw[e];rfl))
 ·intro ad v y;have hc:=h.wr.pi ad v y;rw[ia (same ad.block ?_)]
  ·exact hc
  ·intro e;simp[pc,e,h1]at hc
def cK.compose{j:World}{E2:List RI}{d:fQ}{o2:List Ob}(h:cK tt B E Pp objs w)(k:cK tt { w0:=w,E0:=B.E0,P0:=Pp,mo:=own E objs } E2 d o2 j):cK tt B E2 d o2 j:=by
 have c:∀b,own E objs b->B.w0.heap.size<=b\/B.mo b:=λb ⟨i,o,ri,h1,h2,h3,h4⟩=>h.fresh i o ri b h1 h2 h3 h4;refine⟨k.wr,k.pre,λad v e=>k.sT ad v (h.sT ad v e),?_,?_,?_⟩
 ·refine h.fr.trans k.fr (λx l p=>?_);have l:x<B.w0.heap.size:=l;rcases c x p with h1|h1
  ·omega
  ·exact h1
 ·intro ad v e;rcases k.jV ad v e with h1|h1|h1
  ·exact h.jV ad v h1
  ·exact .inr (.inl (bM h.fr.size h1))
  ·exact .inr (c _ h1)
 ·intro i o ri b h1 h2 h3 h4;rcases k.fresh i o ri b h1 h2 h3 h4 with h5|h5
  ·exact .inl (bM h.fr.size h5)
  ·exact c _ h5
def ye{ps:Array Tmp}(hg:ev st.s g= .cu f gU)(hf:Has P f fn m)(ax:iC f kB=true){T:cS}(aD:Gv st.s T)
 (hk:yd G (lU P G.tt) f gU ps c1 c2 T st Q):sB P G.tt G.n G.n0 none (.rangeFunc g ps c1 c2) st Q:=by
 intro B E Pp a w hb hs;have ag:=fa hs.fJ g;rw[hg]at ag;generalize av:a.eval g=vg at ag;cases ag with
 |cu _ _ vs _ hu ad=>
 obtain rfl:=hu.get ax;have ao:=hs.wr.len;refine wpIn_rangeFunc (F:=oX none) λan _=>?_;generalize J:({ state:=.ready,pending:=none,fn:=an,tmps:=a.tmps,params:=ps,assign:=c1,body:=c2,defers:=w.heap.size }:Loop)=rec;generalize y:(w.alloc (.deferred (some []))).alloc (.loop rec)=q;have aI:q.heap.size=w.heap.size+2:=by rw[<- y];simp
 have aC:q.heap[w.heap.size]? =some (.deferred (some [])):=by rw[<- y,RowKit.Below.heap_alloc _ _ _ yS];exact ej w _
 have ay:q.heap[w.heap.size+1]? =some (.loop rec):=by have:=ej (w.alloc (.deferred (some []))) (.loop rec);rw[y]at this;simpa using this
 have z:∀(i:Nat) x,E[i]? =some x->(E++[RI.loop (w.heap.size+1)])[i]? =some x:=mem_push
 have h1:cK G.tt B (E++[.loop (w.heap.size+1)]) Pp (st.o++[.loop G.n ps.toList c1 c2 T .ready]) q:=by
  have ha:=hs.Ih.alloc (.deferred (some []));have:=ha.new (x:=.loop rec) (ri:=.loop (w.heap.size+1)) (o:=.loop G.n ps.toList c1 c2 T .ready) (by simp[RI.cZ]) ?_
  ·rw[y]at this;exact this
  ·refine⟨rec,?_,?_,?_⟩
   ·rw[y];exact ay
   ·subst J;exact⟨hs.size,rfl,rfl,rfl,rfl,rfl⟩
   ·intro t;have:rec.tmps=a.tmps:=by subst J;rfl
    rw[this];exact xi (rz aD t) ((hs.fJ t).mono z (λ_ _ h=>h))
 have D:∀t,VR G.tt (E++[.loop (w.heap.size+1)]) Pp (a.tmps.getD t undef) (look st.s t):=λt=>(hs.fJ t).mono z (λ_ _ h=>h);have aa:(E++[RI.loop (w.heap.size+1)])[st.o.length]? =some (.loop (w.heap.size+1)):=by rw[<- ao];simp
 have hv:eM G.tt (E++[.loop (w.heap.size+1)]) Pp (.func (.yield (w.heap.size+1)) #[] #[]::vs) (.kF (bY st.o)::gU):=.cons _ _ _ _ (.kF _ _ (by rw[cL];exact aa)) (ad.mono z (λ_ _ h=>h));unfold yd vG at hk;rw[eU]at hk;generalize hF:reach (st.o++[.loop G.n ps.toList c1 c2 T .ready]) 64 (eT (oL 8) (.kF (bY st.o)::gU)) []=F at hk;unfold qL at hk;cases I:(jD F&&gF (λr=>iC r (bY (st.o++[.loop G.n ps.toList c1 c2 T .ready]))) F)with
 |false=>rw[I]at hk;exact hk.elim
 |true=>
 rw[I]at hk;simp only[bn,cL]at I;have ab:cK G.tt { w0:=q,E0:=B.E0,P0:=Pp,mo:=own (E++[.loop (w.heap.size+1)]) (st.o++[.loop G.n ps.toList c1 c2 T .ready]) } (E++[.loop (w.heap.size+1)]) Pp (st.o++[.loop G.n ps.toList c1 c2 T .ready]) q:=⟨h1.wr,h1.pre,λ_ _ h=>h,Fr.refl _ _,λ_ _ h=>.inl h,λi o ri b q1 q2 q3 X=>.inr ⟨i,o,ri,q1,q2,q3,X⟩⟩;have hl:=CS (st:=st) (a:=a) (K:=λ_ l=>qD (bY st.o) l Q) ab D hv (oQ I.1) (NL I.2);have af:=hk _ _ q (.func (.yield (w.heap.size+1)) #[] #[]::vs) hl.1 hl.2.1;rcases af with⟨_,V⟩|⟨v,w',Y,_⟩
 case inr=>rw[oZ hf.f hf.b hf.name]at Y;cases Y
 refine⟨w.heap.size+1,[Se w.heap.size],q,{ target:=.fn (.func f) ⟨vs⟩,args:= #[.func (.yield (w.heap.size+1)) #[] #[]] },q,f,⟨.func (.yield (w.heap.size+1)) #[] #[]::vs⟩,q,?_,?_,λ_ _=>trivial,?_,λh=>by simp[oX,Fence.wide]at h,?_⟩
 ·have:=run_enterLoop_outer (P:=P) (w:=w) an a.tmps ps c1 c2;rw[J,y]at this;exact this
 ·have he:(#[Operand.const (.func (.yield (w.heap.size+1)) #[] #[])]:Array Operand).map a.eval= #[.func (.yield (w.heap.size+1)) #[] #[]]:=by simp[Act.eval]
  simp[resolve,rangeCall,av,Deferred.ofValue,he]
 ·have:=oZ (w:=q) (vals:=.func (.yield (w.heap.size+1)) #[] #[]::vs) hf.f hf.b hf.name;simpa[invoke]using this
 ·refine(wN V).mono ?_;intro e S hq;obtain⟨v,pv,s',o',E',Pp',rfl,_,q3,X,U,q6,q7,q8⟩:=hl.2.2 e S hq;have ae:cK G.tt B E' Pp' o' S:=h1.compose X;have W:E'[st.o.length]? =some (.loop (w.heap.size+1)):=q7.loop aa
  have aq:S.heap[w.heap.size]? =some (.deferred (some []))/\¬own E' o' w.heap.size:=by
   have aj:¬own (E++[.loop (w.heap.size+1)]) (st.o++[.loop G.n ps.toList c1 c2 T .ready]) w.heap.size:=by
    rintro⟨i,o,ri,R,r2,p,r4⟩;rcases jw R with⟨t1,t2⟩|⟨j,rfl,t2⟩
    ·rw[bO yO]at p;have:=mW hs.wr ⟨i,o,ri,t2,r2,p,r4⟩;omega
    ·cases j with
     |zero=>simp only[iw]at p;rw[aa]at p;cases p;simp only[RI.cZ,cw]at r4;omega
     |succ j=>simp at t2
   refine⟨(X.fr.block _ (by show w.heap.size<q.heap.size;omega) aj).trans aC,?_⟩;rintro⟨i,o,ri,R,r2,p,r4⟩;rcases X.fresh i o ri _ R r2 p r4 with r5|r5
   ·have r5:q.heap.size<=w.heap.size:=r5;omega
   ·exact aj r5
  unfold qD at U;rw[cL]at U;split at U
  ·rename_i n' aR aL aQ s' j aA;have M:=di aA rfl;obtain⟨ri,ar,aE⟩:=X.wr.ob _ _ M rfl;rw[W]at ar;cases ar;obtain⟨p,t1,t2,_⟩:=aE;subst q8
   have u:∀(H:Option Code),p.state≠ .busy->p.pending=H->∀(e4:Exit)(O:Ex),uq e4 O->Q O ⟨st.s,il o' st.o.length .dead⟩->
    (∀(Q':Exit->Act->World->Prop)(a4:Act)(w4:World),Q' e4 a4 w4->match H with|none=>Q' .normal a4 w4|some c=>c.wpIn (oX none) 0 P Q' a4 w4)->
    rangePost (oX none) 0 P (w.heap.size+1) (λe a' w'=>∃O l E' Pp',uq e O/\gW G.tt G.n (B.at a'.defers) E' Pp' l a' w'/\Mk w a.defers E' l.o a'.defers w'/\w.heap.size<=w'.heap.size/\Q O l) { a with defers:=[Se w.heap.size]++a.defers } (.returned v) S:=by
    intro H aw Z e4 O az hQ aF;subst Z;have al:=run_endLoop (P:=P) t1 aw;have k:=ae.Nd (r2:={ p with state:=.exhausted }) M W rfl;rw[<- gw]at k;have ap:gW G.tt G.n (B.at ([Se w.heap.size]++a.defers)) E' Pp' ⟨st.s,il o' st.o.length .dead⟩ { a with defers:=[Se w.heap.size]++a.defers } (S.putObj (w.heap.size+1) (.loop { p with state:=.exhausted })):=⟨k.wr,q3,hs.size,rfl,k.pre,k.sT,k.fr,k.jV,k.fresh⟩
    have aG:Mk w a.defers E' (il o' st.o.length .dead) ([Se w.heap.size]++a.defers) (S.putObj (w.heap.size+1) (.loop { p with state:=.exhausted })):=by
     refine⟨[w.heap.size],rfl,yS,λb am=>?_⟩;rw[cU]at am;subst am;have hz:q.heap.size<=S.heap.size:=X.fr.size;refine⟨bX _,by simp[World.putObj];omega,?_,?_⟩
     ·rw[World.putObj_heap_other yO];exact aq.1
     ·rintro⟨i,o,ri,R,r2,p,r4⟩;rw[gw]at R;by_cases hi:i=st.o.length
      ·subst hi;rw[bT (cB M)]at R;cases R;simp[Ob.live]at r2
      ·rw[bQ (dZ hi)]at R;exact aq.2 ⟨i,o,ri,R,r2,p,r4⟩
    have hz:w.heap.size<=(S.putObj (w.heap.size+1) (.loop { p with state:=.exhausted })).heap.size:=by have hz:q.heap.size<=S.heap.size:=X.fr.size;simp[World.putObj];omega
    exact⟨p.pending,_,al,aF (λe a' w'=>∃O l E' Pp',uq e O/\gW G.tt G.n (B.at a'.defers) E' Pp' l a' w'/\Mk w a.defers E' l.o a'.defers w'/\w.heap.size<=w'.heap.size/\Q O l) _ _ ⟨O,_,E',Pp',az,ap,aG,hz,hQ⟩⟩
   have d:=t2.state;split at U
   ·exact u none (by rw[d.1];decide) d.2 .normal .normal trivial U (λQ' a4 w4 h=>h)
   ·exact u (some .ret) (by rw[d.1];decide) d.2 .ret .ret trivial U (λQ' a4 w4 h=>wpIn_ret h)
   ·exact u (some (.exit _)) (by rw[d.1];decide) d.2 (.exit _) (.exit _) rfl U (λQ' a4 w4 h=>wpIn_exit h)
   ·exact U.elim
  ·exact U.elim
def Ctx.range(X:Ctx P G A C L)(hr:G.DB=false){ps:Array Tmp}{st:St}(hf:Has P f fn m)(e:ev st.s g= .cu f gU)(d:cS)(c:Gv st.s d)
 (hk:yd G C f gU ps c1 c2 d st Q) (b:iC f kB=true:=by rfl):L (.rangeFunc g ps c1 c2) st Q:=by
 obtain⟨rfl,rfl,⟨r,h0,rfl⟩,h,i⟩:=X;obtain rfl:=h0 hr;exact ye e hf b c hk
end
end
section
variable [Inhabited pY]
open Go Go.ChangeShapes
def F3(w:World):fQ:=λad v=>w.cell? ad=some v
inductive Bd (n:Nat):D->Prop
 |int (k) (h: -9223372036854775808<=k/\k<=9223372036854775807):Bd n (.int k)
 |bool (b):Bd n (.bool b)
 |str (s:List UInt8) (h:s.length<=n):Bd n (.str s)
 |nil:Bd n .nil
 |list (rows:List (List D)) (h:rows.length<=n) (hr:∀row∈rows,∀d∈row,Bd n d):Bd n (.list rows)
 |ptr (cs:List D) (hr:∀d∈cs,Bd n d):Bd n (.ptr cs)
def Md(tt:TypeId->Option TI)(t:TypeId):Bool:=match tt t with
 |some ti=>ti.bP.all λck=>match ck with| .int .u64=>false|_=>true
 |none=>true
theorem wf_i64{k:IntKind}{m:Int}(h:(Lit.int k m).wf=true)(hk:k≠ .u64): -9223372036854775808<=m/\m<=9223372036854775807:=by simp only[Lit.wf,bn,decide_eq_true_eq]at h;cases k<;>simp[IntKind.min,IntKind.max,IntKind.signed,IntKind.bits]at h hk<;>omega
mutual
def wD:D->Nat
 | .int _=>1
 | .bool _=>1
 | .str _=>1
 | .nil=>1
 | .ptr cs=>1+jZ cs
 | .list rows=>1+Og rows
def jZ:List D->Nat
 |[]=>0
 |d::l=>wD d+jZ l
def Og:List (List D)->Nat
 |[]=>0
 |r::l=>jZ r+Og l
end
theorem H6:∀(a b:List D),jZ (a++b)=jZ a+jZ b
 |[],b=>by simp[jZ]
 |d::a,b=>by simp only[dL,jZ,H6 a b];omega
theorem Cb:∀(l:List (List D)),Og l=(l.map jZ).sum
 |[]=>by simp[Og]
 |r::l=>by simp only[Og,bF,bV,Cb l]
theorem H7{r:List D}:∀{l:List (List D)},r∈l->jZ r<=Og l
 |x::l,h=>by
  simp only[Og];rcases bx.1 h with rfl|h
  ·omega
  ·have:=H7 h;omega
structure N9 {H:Type} (bulk:DataW H->Nat):Prop where
 str:∀s,s.length<=bulk (.lit (.string s))
 slice:∀es sp,es.length<=bulk (.slice es sp)/\∀e∈es,bulk e<=bulk (.slice es sp)
 agg:∀ps,∀e∈ps,bulk e<=bulk (.agg ps)
 ptr:∀d,bulk d<=bulk (.ptr d)
 one:∀d,1<=bulk d
 Ue:∀es sp,1+(es.map bulk).sum<=bulk (.slice es sp)
 Uf:∀ps,(ps.map bulk).sum<=bulk (.agg ps)
inductive gb (tt:TypeId->Option TI) (Pp:fQ) (n:Nat):List CK->List Value->List D->Prop
 |nil:gb tt Pp n [] [] []
 |cons (ck v d bP vs ds) (h:RD tt Pp ck v d) (hb:Bd n d) (t:gb tt Pp n bP vs ds):gb tt Pp n (ck::bP) (v::vs) (d::ds)
section
variable {tt:TypeId->Option TI}{Pp:fQ}{n:Nat}
theorem gb.append{bP a:List CK}{vs c:List Value}{ds b:List D}(h:gb tt Pp n bP vs ds)(k:gb tt Pp n a c b):gb tt Pp n (bP++a) (vs++c) (ds++b):=by
 induction h with
 |nil=>exact k
 |cons ck v d bP vs ds h hb _ e=>exact .cons _ _ _ _ _ _ h hb e
theorem gb.len{bP:List CK}{vs:List Value}{ds:List D}(h:gb tt Pp n bP vs ds):vs.length=bP.length/\ds.length=bP.length:=by
 induction h with
 |nil=>exact⟨rfl,rfl⟩
 |cons _ _ _ _ _ _ _ _ _ a=>simp[a.1,a.2]
theorem gb.get{bP:List CK}{vs:List Value}{ds:List D}(h:gb tt Pp n bP vs ds):∀{j:Nat}{ck:CK}{v:Value}{d:D},bP[j]? =some ck->vs[j]? =some v->ds[j]? =some d->RD tt Pp ck v d/\Bd n d:=by
 induction h with
 |nil=>intro j ck v d h;simp at h
 |cons ck v d bP vs ds h hb _ a=>
  intro j b c d' h1 h2 h3;cases j with
  |zero=>simp at h1 h2 h3;subst h1 h2 h3;exact⟨h,hb⟩
  |succ j=>exact a (yU h1) (yU h2) (yU h3)
theorem gb.bd{bP:List CK}{vs:List Value}{ds:List D}(h:gb tt Pp n bP vs ds):∀d∈ds,Bd n d:=by
 induction h with
 |nil=>intro d a;simp at a
 |cons ck v d bP vs ds h hb _ b=>
  intro d' a;rcases bx.1 a with rfl|a
  ·exact hb
  ·exact b d' a
theorem gb.mX:∀{bP:List CK}{vs:List Value}{ds:List D},vs.length=bP.length->ds.length=bP.length->
 (∀(j:Nat)(ck:CK)(v:Value)(d:D),bP[j]? =some ck->vs[j]? =some v->ds[j]? =some d->RD tt Pp ck v d/\Bd n d)->gb tt Pp n bP vs ds
 |[],[],[],_,_,_=>.nil
 |ck::bP,v::vs,d::ds,h1,h2,h=>.cons _ _ _ _ _ _ (h 0 ck v d rfl rfl rfl).1 (h 0 ck v d rfl rfl rfl).2 (gb.mX (yU h1) (yU h2) λj ck v d a b c=>h (j+1) ck v d (yU a) (yU b) (yU c))
 |[],_::_,_,h1,_,_=>yE h1
 |[],[],_::_,_,h2,_=>yE h2
 |_::_,[],_,h1,_,_=>yE h1
 |_::_,_::_,[],_,h2,_=>yE h2
theorem RD.rows{e:TypeId}{v:Value}{d:D}(h:RD tt Pp (.slice e) v d)(hb:Bd n d):∃rows,d= .list rows/\rows.length<=n/\∀row∈rows,∃vs,gb tt Pp n (bN tt e) vs row:=by
 cases hb with
 |list rows hl hr=>
  refine⟨rows,rfl,hl,?_⟩;cases h with
  |slnil=>intro row h;simp at h
  |Gy=>intro row h;simp at h
  |sl _ b o len cap _ vf hlen hc dN hV iK=>intro row a;obtain⟨i,c⟩:=ig a;refine⟨(dF (bN tt e).length).map (vf i),gb.mX yS (dN i row c) ?_⟩;intro j ck v d h1 h2 h3;have f:=cB h1;simp[f]at h2;subst h2;exact⟨iK i j row d ck c h3 h1,hr row a d (fA h3)⟩
 |int=>cases h
 |bool=>cases h
 |str=>cases h
 |nil=>cases h
 |ptr=>cases h
theorem lift_map{α β:Type}{f:α->β}{p:α->Prop}:∀{rows:List β},(∀r∈rows,∃x,r=f x/\p x)->∃l:List α,rows=l.map f/\∀x∈l,p x
 |[],_=>⟨[],rfl,λx h=>yE h⟩
 |r::rows,h=>by
  obtain⟨x,rfl,b⟩:=h r yS;obtain⟨l,rfl,hl⟩:=lift_map (rows:=rows) (λr hr=>h r (by simp[hr]));refine⟨x::l,rfl,λy a=>?_⟩;rcases bx.1 a with rfl|a
  ·exact b
  ·exact hl y a
end
theorem tH{f:Nat->Nat}:∀{len:Nat}{l:List Nat},(∀i,i<len->f i<=l.getD i 0)->len<=l.length->((dF len).map f).sum<=l.sum
 |len,[],_,hl=>by simp at hl;subst hl;simp
 |0,l,_,_=>yS
 |len+1,x::l,h,hl=>by rw[List.range_succ_eq_map,bF,bV,ep,bV];have h0:=h 0 yO;have:=tH (f:=f∘Nat.succ) (len:=len) (l:=l) (λi a=>by have:=h (i+1) yO;simpa using this) (yU hl);simp at h0;omega
def DT(tt:TypeId->Option TI)(S:List TypeId):Nat->List (Nat×TypeId)->List CK->Bool
 |_,[],bP=>bP.isEmpty
 |off,(o,a)::fs,bP=>nb o off&&S.contains a&&decide (bP.take (bN tt a).length=bN tt a)&&DT tt S (off+(bN tt a).length) fs (bP.drop (bN tt a).length)
def FB(tt:TypeId->Option TI)(S:List TypeId)(t:TypeId):Bool:=match tt t with
 |none=>false
 |some ti=>match ti.agg with
  |true=>nb ti.ar 0&&DT tt S 0 ti.fs ti.bP
  |false=>match ti.bP with
   |[.int _]=>true
   |[.bool]=>true
   |[.str]=>true
   |[.slice e]=>S.contains e&& !(bN tt e).isEmpty
   |_=>false
section
variable {P:Program}{tt:TypeId->Option TI}{H:Type}{enc:TypeId×Value->H}{w:World}{n:Nat}
variable {S:List TypeId}{W:World}
theorem HG(a:ez P tt){t:TypeId}{ti:TI}(h:tt t=some ti):P.cellsOf t=(bN tt t).length:=by obtain⟨i,z,d,b,fW,_⟩:=(a t ti h).info;simp[Program.cellsOf,b,bN,h,fW]
theorem zS{base:Nat}{a:Addr}{m:Nat}{cs:List Value}(h:w.cells? base a m=some cs):cs.length=m/\∀j,j<m->w.cell? (a.add j)=cs[j]? :=by
 unfold World.cells? at h;split at h
 ·exact⟨by simpa using mapM_some_length h,λj b=>mapM_some_get h j j (by simp[b])⟩
 ·cases h
theorem DS{fuel:Nat}{cs:List Value}{bulk:DataW H->Nat}(Q9:∀ft,S.contains ft=true->P.cellsOf ft=(bN tt ft).length):
 ∀(xs:List (DataW H×List MemPlace))(fs:List (Nat×TypeId))(off:Nat)(bP:List CK),
  (∀(t:TypeId)(cs:List Value)(x:DataW H×List MemPlace),S.contains t=true->x∈xs->DataW.trod enc P w 0 (λ_=>true) true fuel t cs=some x->∃ds,gb tt (F3 w) n (bN tt t) cs ds/\jZ ds<=bulk x.1)->
  DT tt S off fs bP=true->cs.length=off+bP.length->
  (∀(i o:Nat)(ft:TypeId),fs[i]? =some (o,ft)->∃x,xs[i]? =some x/\DataW.trod enc P w 0 (λ_=>true) true fuel ft ((cs.drop o).take (P.cellsOf ft))=some x)->
  ∃ds,gb tt (F3 w) n bP (cs.drop off) ds/\jZ ds<=(xs.map λx=>bulk x.1).sum
 |xs,[],off,bP,_,h,hl,_=>by simp only[DT,List.isEmpty_iff]at h;subst h;simp at hl;rw[fH yO];exact⟨[],.nil,by simp[jZ]⟩
 |[],(o,ft)::fs,off,bP,_,h,hl,hx=>by obtain⟨x,hm,_⟩:=hx 0 o ft rfl;simp at hm
 |x0::xs,(o,ft)::fs,off,bP,ih,h,hl,hx=>by
  simp only[DT,bn,decide_eq_true_eq]at h;obtain⟨⟨⟨h1,h2⟩,h3⟩,h4⟩:=h;have:=cX h1;subst this;obtain⟨x,hm,ht⟩:=hx 0 o ft rfl;simp at hm;subst hm;obtain⟨ds1,hd1,hw1⟩:=ih _ _ _ h2 yS ht;rw[Q9 ft h2]at hd1;have hlen:(bN tt ft).length<=bP.length:=by have:=congrArg jJ h3;simp at this;omega
  obtain⟨ds2,hd2,hw2⟩:=DS (cs:=cs) Q9 xs fs (o+(bN tt ft).length) (bP.drop (bN tt ft).length) (λt cs x a b c=>ih t cs x a (by simp[b]) c) h4 yQ (λi o ft hi=>by obtain⟨x,h5,h6⟩:=hx (i+1) o ft (yU hi);exact⟨x,yU h5,h6⟩);refine⟨ds1++ds2,?_,by rw[H6,bF,bV];omega⟩;have:=hd1.append hd2;rw[<- h3]at this;rw[show (List.take (bN tt ft).length bP).length=(bN tt ft).length by rw[h3]]at this
  rwa [cV,<-List.drop_drop,cV]at this
theorem Lj(Q:ez P tt)(hS:S.all (FB tt S)=true)(hU:S.all (Md tt)=true){bulk:DataW H->Nat}(hb:N9 bulk):
 ∀(fuel:Nat)(t:TypeId)(cs:List Value)(x:DataW H×List MemPlace),S.contains t=true->DataW.trod enc P w 0 (λ_=>true) true fuel t cs=some x->bulk x.1<=n->∃ds,gb tt (F3 w) n (bN tt t) cs ds/\jZ ds<=bulk x.1:=by
 have O:∀t,S.contains t=true->FB tt S t=true:=λt I=>dE.1 hS t (yU I)
 have q:∀t,S.contains t=true->P.cellsOf t=(bN tt t).length:=by
  intro t I;have:=O t I;unfold FB at this;split at this
  ·cases this
  ·rename_i ti B;exact HG Q B
 intro fuel;induction fuel with
 |zero=>intro t cs x _ h;simp[DataW.trod]at h
 |succ fuel ih=>
  intro t cs x I h G;have l:=O t I;have af:=q t I;unfold FB at l;split at l
  ·cases l
  rename_i ti B;have R:bN tt t=ti.bP:=by simp[bN,B]
  obtain⟨i,z,d,p,fW,_,_,_,_,hu,c⟩:=(Q t ti B).info;rw[R]at af ⊢;cases d with
  |int k=>
   obtain⟨m,rfl,rfl,ab⟩:=DataW.trod_int hu h;have ac:k≠ .u64:=by rintro rfl;have:=dE.1 hU t (yU I);rw[Md,B]at this;simp[c.2.1]at this
   rw[c.2.1];exact⟨_,.cons _ _ _ _ _ _ (.int _ _) (.int _ (wf_i64 ab ac)) .nil,by simp only[jZ,wD];exact hb.one _⟩
  |bool=>obtain⟨m,rfl,rfl⟩:=DataW.trod_bool hu h;rw[c.2.1];exact⟨_,.cons _ _ _ _ _ _ (.bool _) (.bool _) .nil,by simp only[jZ,wD];exact hb.one _⟩
  |string=>obtain⟨s,rfl,rfl,_⟩:=DataW.trod_string hu h;rw[c.2.1];exact⟨_,.cons _ _ _ _ _ _ (.str _) (.str _ (bM (hb.str _) G)) .nil,by simp only[jZ,wD];exact hb.one _⟩
  |struct fields=>
   obtain⟨ha,hf,_⟩:=c;rw[ha]at l;simp only[bn]at l;obtain⟨xs,m,hm,rfl,hl,ao,hx⟩:=DataW.trod_struct hu h;cases hm;have V:∀y∈xs,bulk y.1<=n:=λy hy=>bM (hb.agg _ _ (bH.2 ⟨y,hy,rfl⟩)) G;have:=DS (n:=n) (cs:=cs) (bulk:=bulk) q xs ti.fs 0 ti.bP (λt' g x' h1 h2 h3=>ih t' g x' h1 h3 (V _ h2)) l.2 yO ?_
   ·obtain⟨ds,h1,h2⟩:=this;refine⟨ds,yU h1,bM h2 ?_⟩;have:=hb.Uf (xs.map (·.1));rw[ep]at this;exact this
   ·intro j o ft F;rw[<- hf j]at F;rw[qh]at F;obtain⟨f,J,he⟩:=F;cases he
    have dA:j<fields.size:=by
     rcases bR j fields.size with h'|h'
     ·exact h'
     ·rw[cR h']at J;cases J
    have:=hx j f J;rw[bu yO]at this;exact⟨_,bu yO,this⟩
  |slice e=>
   obtain⟨ha,C,_⟩:=c;rw[ha,C]at l;simp only[bn,ij,List.isEmpty_eq_false_iff]at l;obtain⟨he,X⟩:=l;have ag:=q e he;have M:0<(bN tt e).length:=gz.2 X;rw[C];rcases DataW.trod_slice hu h with⟨rfl,rfl⟩|⟨a,len,cap,elems,rest,m,hm,rfl,rfl,_,ai,am,ar,E,K,_⟩
   ·exact⟨_,.cons _ _ _ _ _ _ (.slnil _) (.list _ yS (λrow h=>yE h)) .nil,by simp only[jZ,wD,Og];exact hb.one _⟩
   ·cases hm;obtain⟨ax,N⟩:=K rfl;have L:=hb.slice (elems.map (·.1)) (rest.map (·.1));rw[ag]at E N;by_cases Y:cap=0
    ·subst Y;have:len=0:=yO;subst this;exact⟨_,.cons _ _ _ _ _ _ (.Gy _ a) (.list _ yS (λrow h=>yE h)) .nil,by simp only[jZ,wD,Og];exact hb.one _⟩
    ·
     have A:a.spot=none:=by
      have:∃g,w.cells? 0 (a.add 0) (bN tt e).length=some g:=by
       by_cases Z:0<len
       ·have:=E 0 Z;rw[bu yO,kE]at this;obtain⟨g,h1,_⟩:=this;exact⟨g,yU h1⟩
       ·have:=N 0 yO;rw[bu yO,kE]at this;obtain⟨g,h1,_⟩:=this;have hz:len=0:=yO;subst hz;exact⟨g,yU h1⟩
      obtain⟨g,h1⟩:=this;obtain⟨h2,h3⟩:=zS h1;have:=h3 0 M;rw[bu yO]at this;simpa[Addr.add]using World.cell?_spot this
     obtain⟨b,o,sp⟩:=a;simp only at A;subst A
     have key:∀i,∃g ds,i<len->(g.length=(bN tt e).length/\(∀j,j<(bN tt e).length->w.cell? ⟨b,o+i*(bN tt e).length+j,none⟩=g[j]?)/\gb tt (F3 w) n (bN tt e) g ds/\jZ ds<=(elems.map λx=>bulk x.1).getD i 0):=by
      intro i;by_cases p:i<len
      ·have:=E i p;rw[bu yO,kE]at this;obtain⟨g,h1,h2⟩:=this;have al:bulk (elems[i]'yO).1<=n:=bM (L.2 _ (bH.2 ⟨_,br _,rfl⟩)) G;obtain⟨ds,aa,aj⟩:=ih e g _ he h2 al;obtain⟨h3,h4⟩:=zS h1;refine⟨g,ds,λ_=>⟨h3,λj F=>?_,aa,by rw[fc,cC,bu yO];exact aj⟩⟩;have:=h4 j F
       rwa [fh,fh]at this
      ·exact⟨[],[],λh=>absurd h p⟩
     have⟨cf,key⟩:=KV.1 key;have⟨T,key⟩:=KV.1 key;have r:∀(i:Nat)(row:List D),((dF len).map T)[i]? =some row->i<len/\row=T i:=by intro i row p;have dA:=cB p;simp at dA;simp[dA]at p;exact⟨dA,p.symm⟩
     refine⟨_,.cons _ _ _ _ _ _ (.sl e b o len cap ((dF len).map T) (λi j=>(cf i).getD j undef) yS ai ?_ ?_ ?_) (.list _ ?_ ?_) .nil,?_⟩
     ·intro i row p;obtain⟨dA,rfl⟩:=r i row p;exact(key i dA).2.2.1.len.2
     ·intro i j p F;obtain⟨U,k2,_⟩:=key i p;have:=k2 j F;rw[bu yO]at this;show w.cell? _=some _;rw[this];simp[fc,U,F]
     ·intro i j row d ck p F C;obtain⟨dA,rfl⟩:=r i row p;obtain⟨U,_,k3,_⟩:=key i dA;have ae:=cB C;exact(k3.get C (v:=(cf i).getD j undef) (by rw[bu yO];simp[fc,U,ae]) F).1
     ·have h1:=L.1;have h2:bulk (DataW.slice (elems.map (·.1)) (rest.map (·.1)))<=n:=G;rw[bA]at h1;rw[bA,List.length_range];omega
     ·intro row dN d ak;obtain⟨i,p⟩:=ig dN;obtain⟨dA,rfl⟩:=r i row p;exact(key i dA).2.2.1.bd d ak
     ·simp only[jZ,wD];have u:=hb.Ue (elems.map (·.1)) (rest.map (·.1));rw[ep]at u;have u:1+(elems.map λx=>bulk x.1).sum<=bulk (DataW.slice (elems.map (·.1)) (rest.map (·.1))):=u;have aB:Og ((dF len).map T)<=(elems.map λx=>bulk x.1).sum:=by rw[Cb,ep];exact tH (λi p=>(key i p).2.2.2) (by rw[bA];omega)
      omega
  |array m e=>obtain⟨ha,ap,_⟩:=c;rw[ha]at l;simp only[bn]at l;have:=cX l.1;omega
  |pointer e=>rw[c.1,c.2.1]at l;cases l
  |map k e=>rw[c.1,c.2.1]at l;cases l
  |func=>rw[c.1,c.2.1]at l;cases l
  |_=>exact c.elim
def Oa(w:World):fQ:=λad v=>w.cell? ad=some v\/(ad.spot=some 1/\pc w ad=some v)
def WV(tt:TypeId->Option TI)(w:World):Prop:=(∀b,vM tt=some b->∃m:Int,w.cell? ⟨b,0,none⟩=some (.int .i64 m))/\
 ∀g,g∈vL tt->∃T f,w.heap[g.1]? =some (.cells (g.2.2.map (Value.int g.2.1)).toArray T f)
theorem WV.glF{w:World}(h:WV tt w):N6 tt (Oa w):=⟨λb hb=>(h.1 b hb).imp λ_ c=>.inl c,λg a=>by
 obtain⟨T,f,hc⟩:=h.2 g a;refine⟨.inr ⟨rfl,?_⟩,λi z hz=>.inl ?_⟩
 ·simp only[pc,hc,if_true,QG,bA]
 ·simp only[World.cell?,hc];simp[hz]⟩
theorem Oa.wr(w:World)(a:WV tt w):WR tt [] (Oa w) [] w:=⟨rfl,λ_ _ h=>h.elim gm (·.2),λi o h=>yE h,λi j oi oj ri rj b h=>yE h,a.glF⟩
theorem sg(hl:laidOutB P=true){c:World}(hb:Go.RowKit.Below W.heap.size W c){sp:Nat->Bool}:∀{ts:List TypeId}{vs:List Value}{ds:List (DataW H)}{ps:List MemPlace},(∀t∈ts,P.readableRec t=true/\t<P.types.size)->
 DataW.TrodAll enc P W 0 (λ_=>true) true ts vs ds ps->(∀p∈ps,p.block<W.heap.size)->(∀p∈ps,sp p.block=true)->DataW.TrodAll enc P c 0 sp true ts vs ds ps
 |[],[],[],_,_,h,_,_=>h
 |_::_,_::_,_::_,_,b,⟨p,q,h1,h2,e⟩,dA,hs=>by subst e;refine⟨p,q,WideElems.Trod_stays hl (b _ yS).1 (b _ yS).2 h1 (λx a=>hb.same (dA x (by simp[a]))) (λx a=>hs x (by simp[a])),?_,rfl⟩;exact sg hl hb (λt h=>b t (by simp[h])) h2 (λx a=>dA x (by simp[a])) (λx a=>hs x (by simp[a]))
theorem MC{fn:Func}{s:ChangeSpec}{j fresh b:Bool}{f:FuncId}{vals:List Value}{ds D:List (DataW H)}{l:List MemPlace}{tb:TypeId}{c:Code}
 (m:DataW.Whole enc P fn.params.toList s.vars j W vals ds D l) (g:s.vars=[]) (hl:laidOutB P=true) (hr:∀t∈fn.params.toList,P.readableRec t=true/\t<P.types.size)
 (u:fn.resultTypes= #[tb]) (z:P.underlying tb=some .bool) (a:(s.fn H ds).results=[.lit (.bool true)]/\(s.fn H ds).args=ds/\(s.fn H ds).vars=[])
 (hf:Has P f fn c) {args:List PV} (G:eM tt [] (F3 W) vals args) (C:WV tt W) (h:FC P tt f [] args λv _=>v= .bool true):
 Calls P f ⟨vals⟩ W λe y=>∃v,e= .returned v/\s.post enc P fn j fresh b false W ⟨vals⟩ v y:=by
 have dA:=m.lt;have o:=m;obtain⟨p,q,E,B,rfl,I,gx⟩:=m;rw[g]at B;obtain⟨rfl,rfl⟩:=trodVars_none B;rw[cz]at dA;rcases h [] (Oa W) W vals (Oa.wr W C) (G.mono (λ_ _ h=>h) λ_ _ h=>.inl h)with⟨_,hc⟩|⟨v,w',hc,_⟩
 ·refine hc.mono ?_;rintro e y ⟨v,E',Pp',objs',pv,rfl,_,_,_,r,rfl,d,_⟩;cases r;have hb:Go.RowKit.Below W.heap.size W y:=⟨d.os,d.tape,d.output,d.size,λk hk=>d.block k hk nU⟩;refine⟨_,rfl,ds,[],_,[],p,[],o,?_,?_,?_,?_,λh=>yC h⟩
  ·rw[cz,a.1,u];exact trodAll_mk1 (Go.RowKit.shut_bool z true)
  ·rw[cz,a.2.1];exact sg hl hb hr E dA (λx F=>by simpa using dA x F)
  ·rw[cz,a.2.2,g];rfl
  ·refine⟨hb.os,hb.output,λi A=>?_⟩;rw[hb.block i A];exact(World.keptBut_refl W (λx=>x∈p++[]/\(x∈[]\/x∈p\/x∈[]))).2.2 i A
 ·rw[oZ hf.f hf.b hf.name]at hc;cases hc
end
end
end Go.VC
namespace Go.VC
open Go
@[reducible] def XZ:Inhabited pY:=⟨⟨False⟩⟩
@[reducible] def aaa:Inhabited pY:=⟨⟨True⟩⟩
instance instDrT:Inhabited pY:=XZ
def FC.lf{i:Inhabited pY}{P:Program}{tt:TypeId->Option TI}{f:FuncId}{objs:List Ob}{args:List PV}{K:PV->List Ob->Prop}(h: @FC i P tt f objs args K): @FC XZ P tt f objs args K:=by intro E Pp w vals g j;refine mA.mono (h E Pp w vals g j) ?_;rintro e w' ⟨v,E',Pp',objs',pv,a,b,c,d,e,k,fr,l,fo⟩;exact⟨v,E',Pp',objs',pv,a,b,c,d,e,k,@Fr.mk XZ _ _ _ (@Fr.os i _ _ _ fr) (@Fr.tape i _ _ _ fr) (@Fr.output i _ _ _ fr) (@Fr.size i _ _ _ fr) (λh=>False.elim h) (@Fr.block i _ _ _ fr),l,fo⟩
end Go.VC
namespace Go.VC.cc
open Go Go.VC Go.Proofs
def JB:List (TypeId×TI):=[
 (1,{ agg:=false,bP:=[.fn],fs:=[],el:=0,ar:=0,bytes:=8 }),
 (3,{ agg:=false,bP:=[.int .i64],fs:=[],el:=0,ar:=0,bytes:=8,UW:=some 3,UT:=[(0,.u64,Lib.pow10Tab)] }),
 (4,{ agg:=false,bP:=[.bool],fs:=[],el:=0,ar:=0,bytes:=1 }),
 (5,{ agg:=false,bP:=[.int .u8],fs:=[],el:=0,ar:=0,bytes:=1 }),
 (9,{ agg:=false,bP:=[.str],fs:=[],el:=0,ar:=0,bytes:=16 }),
 (21,{ agg:=false,bP:=[.int .i32],fs:=[],el:=0,ar:=0,bytes:=4 }),
 (22,{ agg:=false,bP:=[.slice 97],fs:=[],el:=97,ar:=0,bytes:=24 }),
 (23,{ agg:=false,bP:=[.slice 97],fs:=[],el:=97,ar:=0,bytes:=24 }),
 (24,{ agg:=false,bP:=[.slice 73],fs:=[],el:=73,ar:=0,bytes:=24 }),
 (25,{ agg:=false,bP:=[.slice 73],fs:=[],el:=73,ar:=0,bytes:=24 }),
 (26,{ agg:=false,bP:=[.slice 29],fs:=[],el:=29,ar:=0,bytes:=24 }),
 (27,{ agg:=false,bP:=[.slice 57],fs:=[],el:=57,ar:=0,bytes:=24 }),
 (29,{ agg:=true,bP:=[.int .i64,.str,.str,.slice 29,.slice 57],fs:=[(0,3),(1,9),(2,9),(3,26),(4,27)],el:=0,ar:=0,bytes:=88 }),
 (32,{ agg:=false,bP:=[.slice 60],fs:=[],el:=60,ar:=0,bytes:=24 }),
 (39,{ agg:=false,bP:=[.slice 23],fs:=[],el:=23,ar:=0,bytes:=24 }),
 (40,{ agg:=false,bP:=[.slice 45],fs:=[],el:=45,ar:=0,bytes:=24 }),
 (41,{ agg:=false,bP:=[.int .i64],fs:=[],el:=0,ar:=0,bytes:=8 }),
 (45,{ agg:=true,bP:=[.int .i64,.str,.str,.int .i64,.slice 73,.int .i64,.str,.str,.slice 29,.slice 57,.int .i64,.str,.str,.slice 29,.slice 57],fs:=[(0,3),(1,9),(2,9),(3,3),(4,24),(5,29),(10,29)],el:=0,ar:=0,bytes:=248 }),
 (46,{ agg:=false,bP:=[.slice 50],fs:=[],el:=50,ar:=0,bytes:=24 }),
 (50,{ agg:=true,bP:=[.int .i64,.str,.str,.slice 29,.slice 57,.int .i64,.str,.str,.slice 29,.slice 57],fs:=[(0,29),(5,29)],el:=0,ar:=0,bytes:=176 }),
 (57,{ agg:=true,bP:=[.str,.int .i64,.str,.str,.slice 29,.slice 57,.bool],fs:=[(0,9),(1,29),(6,4)],el:=0,ar:=0,bytes:=112 }),
 (60,{ agg:=true,bP:=[.int .i64,.int .i64,.str,.str,.slice 29,.slice 57,.int .i64,.str,.str,.slice 29,.slice 57],fs:=[(0,3),(1,29),(6,29)],el:=0,ar:=0,bytes:=184 }),
 (66,{ agg:=false,bP:=[.slice 70],fs:=[],el:=70,ar:=0,bytes:=24 }),
 (68,{ agg:=false,bP:=[.slice 9],fs:=[],el:=9,ar:=0,bytes:=24 }),
 (70,{ agg:=true,bP:=[.slice 9,.bool,.int .i64,.int .i64,.str,.str,.slice 29,.slice 57,.int .i64,.str,.str,.slice 29,.slice 57],fs:=[(0,68),(1,4),(2,3),(3,29),(8,29)],el:=0,ar:=0,bytes:=216 }),
 (73,{ agg:=true,bP:=[.str,.int .i64,.int .i64,.str,.str,.slice 29,.slice 57],fs:=[(0,9),(1,3),(2,29)],el:=0,ar:=0,bytes:=112 }),
 (76,{ agg:=false,bP:=[.ptr 129],fs:=[],el:=0,ar:=0,bytes:=8 }),
 (79,{ agg:=false,bP:=[.fn],fs:=[],el:=0,ar:=0,bytes:=8 }),
 (80,{ agg:=false,bP:=[.map 80 4],fs:=[],el:=4,ar:=10,bytes:=8 }),
 (81,{ agg:=false,bP:=[.fn],fs:=[],el:=0,ar:=0,bytes:=8 }),
 (83,{ agg:=false,bP:=[.slice 3],fs:=[],el:=3,ar:=0,bytes:=24 }),
 (91,{ agg:=true,bP:=[.str,.slice 73,.int .i64,.str,.str,.slice 29,.slice 57],fs:=[(0,9),(1,24),(2,29)],el:=0,ar:=0,bytes:=128 }),
 (92,{ agg:=false,bP:=[.slice 91],fs:=[],el:=91,ar:=0,bytes:=24 }),
 (93,{ agg:=false,bP:=[.slice 136],fs:=[],el:=136,ar:=0,bytes:=24 }),
 (94,{ agg:=false,bP:=[.slice 210],fs:=[],el:=210,ar:=0,bytes:=24 }),
 (95,{ agg:=false,bP:=[.slice 213],fs:=[],el:=213,ar:=0,bytes:=24 }),
 (97,{ agg:=true,bP:=[.str,.slice 136,.slice 91,.slice 210,.slice 213],fs:=[(0,9),(1,93),(2,92),(3,94),(4,95)],el:=0,ar:=0,bytes:=112 }),
 (106,{ agg:=false,bP:=[.ptr 108],fs:=[],el:=0,ar:=0,bytes:=8 }),
 (108,{ agg:=true,bP:=[.slice 97,.slice 73,.map 80 4,.slice 9],fs:=[(0,23),(1,25),(2,80),(3,68)],el:=0,ar:=0,bytes:=80 }),
 (109,{ agg:=false,bP:=[.fn],fs:=[],el:=0,ar:=0,bytes:=8 }),
 (111,{ agg:=true,bP:=[.int .i64,.str,.str,.slice 29,.slice 57,.int .i64,.str,.str,.slice 29,.slice 57],fs:=[(0,29),(5,29)],el:=0,ar:=0,bytes:=176 }),
 (113,{ agg:=false,bP:=[.fn],fs:=[],el:=0,ar:=0,bytes:=8 }),
 (114,{ agg:=false,bP:=[.fn],fs:=[],el:=0,ar:=0,bytes:=8 }),
 (116,{ agg:=false,bP:=[.map 116 3],fs:=[],el:=3,ar:=10,bytes:=8 }),
 (118,{ agg:=false,bP:=[.slice 46],fs:=[],el:=46,ar:=0,bytes:=24 }),
 (120,{ agg:=false,bP:=[.ptr 122],fs:=[],el:=0,ar:=0,bytes:=8 }),
 (122,{ agg:=true,bP:=[.ptr 129,.slice 9,.bool,.map 80 4,.slice 70],fs:=[(0,76),(1,68),(2,4),(3,80),(4,66)],el:=0,ar:=0,bytes:=72 }),
 (129,{ agg:=true,bP:=[.slice 97,.slice 73,.slice 9,.map 80 4],fs:=[(0,23),(1,25),(2,68),(3,80)],el:=0,ar:=0,bytes:=80 }),
 (131,{ agg:=false,bP:=[.fn],fs:=[],el:=0,ar:=0,bytes:=8 }),
 (132,{ agg:=false,bP:=[.slice 131],fs:=[],el:=131,ar:=0,bytes:=24 }),
 (134,{ agg:=false,bP:=[.fn],fs:=[],el:=0,ar:=0,bytes:=8 }),
 (136,{ agg:=true,bP:=[.str,.slice 73,.int .i64,.str,.str,.slice 29,.slice 57,.int .i64,.str,.str,.slice 29,.slice 57],fs:=[(0,9),(1,24),(2,29),(7,29)],el:=0,ar:=0,bytes:=216 }),
 (141,{ agg:=false,bP:=[.fn],fs:=[],el:=0,ar:=0,bytes:=8 }),
 (143,{ agg:=false,bP:=[.fn],fs:=[],el:=0,ar:=0,bytes:=8 }),
 (144,{ agg:=false,bP:=[.fn],fs:=[],el:=0,ar:=0,bytes:=8 }),
 (146,{ agg:=false,bP:=[.fn],fs:=[],el:=0,ar:=0,bytes:=8 }),
 (157,{ agg:=false,bP:=[.fn],fs:=[],el:=0,ar:=0,bytes:=8 }),
 (158,{ agg:=false,bP:=[.fn],fs:=[],el:=0,ar:=0,bytes:=8 }),
 (163,{ agg:=false,bP:=[.map 163 158],fs:=[],el:=158,ar:=4,bytes:=8 }),
 (165,{ agg:=false,bP:=[.fn],fs:=[],el:=0,ar:=0,bytes:=8 }),
 (166,{ agg:=false,bP:=[.fn],fs:=[],el:=0,ar:=0,bytes:=8 }),
 (167,{ agg:=true,bP:=[.fn,.fn,.fn,.fn,.fn],fs:=[],el:=166,ar:=6,bytes:=40 }),
 (168,{ agg:=false,bP:=[.slice 111],fs:=[],el:=111,ar:=0,bytes:=24 }),
 (174,{ agg:=false,bP:=[.fn],fs:=[],el:=0,ar:=0,bytes:=8 }),
 (175,{ agg:=false,bP:=[.map 175 118],fs:=[],el:=118,ar:=10,bytes:=8 }),
 (178,{ agg:=false,bP:=[.fn],fs:=[],el:=0,ar:=0,bytes:=8 }),
 (180,{ agg:=false,bP:=[.slice 184],fs:=[],el:=184,ar:=0,bytes:=24 }),
 (184,{ agg:=true,bP:=[.int .i64,.str,.str,.slice 29,.slice 57,.int .i64,.str,.str,.slice 29,.slice 57,.str,.bool],fs:=[(0,50),(10,9),(11,4)],el:=0,ar:=0,bytes:=200 }),
 (189,{ agg:=false,bP:=[.fn],fs:=[],el:=0,ar:=0,bytes:=8 }),
 (190,{ agg:=false,bP:=[.ptr 193],fs:=[],el:=0,ar:=0,bytes:=8 }),
 (191,{ agg:=false,bP:=[.slice 5],fs:=[],el:=5,ar:=0,bytes:=24 }),
 (193,{ agg:=true,bP:=[.ptr 193,.slice 5],fs:=[(0,190),(1,191)],el:=0,ar:=0,bytes:=32,P9:=true }),
 (210,{ agg:=true,bP:=[.str,.str,.str],fs:=[(0,9),(1,9),(2,9)],el:=0,ar:=0,bytes:=48 }),
 (213,{ agg:=true,bP:=[.str,.str],fs:=[(0,9),(1,9)],el:=0,ar:=0,bytes:=32 }),
 (215,{ agg:=false,bP:=[.ptr 136],fs:=[],el:=0,ar:=0,bytes:=8 }),
 (216,{ agg:=false,bP:=[.ptr 91],fs:=[],el:=0,ar:=0,bytes:=8 }),
 (217,{ agg:=false,bP:=[.ptr 210],fs:=[],el:=0,ar:=0,bytes:=8 }),
 (219,{ agg:=true,bP:=[.str,.str,.ptr 136,.ptr 91,.ptr 210],fs:=[(0,9),(1,9),(2,215),(3,216),(4,217)],el:=0,ar:=0,bytes:=56 }),
 (225,{ agg:=false,bP:=[.fn],fs:=[],el:=0,ar:=0,bytes:=8 }),
 (229,{ agg:=false,bP:=[.fn],fs:=[],el:=0,ar:=0,bytes:=8 }),
 (250,{ agg:=false,bP:=[.int .u64],fs:=[],el:=0,ar:=0,bytes:=8 }),
 (253,{ agg:=false,bP:=[.map 253 68],fs:=[],el:=68,ar:=10,bytes:=8 }),
 (256,{ agg:=false,bP:=[.slice 259],fs:=[],el:=259,ar:=0,bytes:=24 }),
 (259,{ agg:=true,bP:=[.str,.str],fs:=[(0,9),(1,9)],el:=0,ar:=0,bytes:=32,Db:=true }),
 (260,{ agg:=false,bP:=[.fn],fs:=[],el:=0,ar:=0,bytes:=8 }),
 (262,{ agg:=false,bP:=[.fn],fs:=[],el:=0,ar:=0,bytes:=8 }),
 (263,{ agg:=false,bP:=[.fn],fs:=[],el:=0,ar:=0,bytes:=8 }),
 (268,{ agg:=false,bP:=[.fn],fs:=[],el:=0,ar:=0,bytes:=8 }),
 (270,{ agg:=false,bP:=[.fn],fs:=[],el:=0,ar:=0,bytes:=8 }),
 (271,{ agg:=false,bP:=[.slice 27],fs:=[],el:=27,ar:=0,bytes:=24 }),
 (276,{ agg:=false,bP:=[.fn],fs:=[],el:=0,ar:=0,bytes:=8 }),
 (281,{ agg:=false,bP:=[.int .u64],fs:=[],el:=0,ar:=0,bytes:=8 }),
 (287,{ agg:=false,bP:=[.int .i64],fs:=[],el:=0,ar:=0,bytes:=8 }),
 (298,{ agg:=false,bP:=[.fn],fs:=[],el:=0,ar:=0,bytes:=8 }),
 (300,{ agg:=false,bP:=[.fn],fs:=[],el:=0,ar:=0,bytes:=8 }),
 (302,{ agg:=false,bP:=[.fn],fs:=[],el:=0,ar:=0,bytes:=8 }),
 (304,{ agg:=true,bP:=[.slice 97,.str,.slice 136,.slice 91,.slice 210,.slice 213],fs:=[(0,23),(1,97)],el:=0,ar:=0,bytes:=136 }),
 (305,{ agg:=false,bP:=[.fn],fs:=[],el:=0,ar:=0,bytes:=8 }),
 (306,{ agg:=false,bP:=[.slice 305],fs:=[],el:=305,ar:=0,bytes:=24 }),
 (307,{ agg:=false,bP:=[.map 307 4],fs:=[],el:=4,ar:=260,bytes:=8 }),
 (309,{ agg:=false,bP:=[.fn],fs:=[],el:=0,ar:=0,bytes:=8 }),
 (310,{ agg:=false,bP:=[.fn],fs:=[],el:=0,ar:=0,bytes:=8 }),
 (314,{ agg:=false,bP:=[.fn],fs:=[],el:=0,ar:=0,bytes:=8 }),
 (317,{ agg:=false,bP:=[.fn],fs:=[],el:=0,ar:=0,bytes:=8 }),
 (323,{ agg:=false,bP:=[.int .u64],fs:=[],el:=0,ar:=0,bytes:=8 }),
 (327,{ agg:=false,bP:=[.ptr 3],fs:=[],el:=0,ar:=0,bytes:=8 }),
 (332,{ agg:=true,bP:=[.slice 9,.slice 9,.slice 9,.slice 9],fs:=[],el:=68,ar:=5,bytes:=96 }),
 (333,{ agg:=true,bP:=[.fn,.fn,.fn,.fn],fs:=[],el:=189,ar:=5,bytes:=32 }),
 (340,{ agg:=false,bP:=[.slice 68],fs:=[],el:=68,ar:=0,bytes:=24 }),
 (343,{ agg:=false,bP:=[.fn],fs:=[],el:=0,ar:=0,bytes:=8 }),
 (352,{ agg:=false,bP:=[.map 352 136],fs:=[],el:=136,ar:=10,bytes:=8 }),
 (353,{ agg:=false,bP:=[.map 353 80],fs:=[],el:=80,ar:=10,bytes:=8 }),
 (355,{ agg:=true,bP:=[.slice 97,.map 352 136,.map 353 80],fs:=[(0,23),(1,352),(2,353)],el:=0,ar:=0,bytes:=40 }),
 (364,{ agg:=false,bP:=[.slice 41],fs:=[],el:=41,ar:=0,bytes:=24 }),
 (366,{ agg:=false,bP:=[.fn],fs:=[],el:=0,ar:=0,bytes:=8 }),
 (367,{ agg:=false,bP:=[.fn],fs:=[],el:=0,ar:=0,bytes:=8 }),
 (381,{ agg:=false,bP:=[.fn],fs:=[],el:=0,ar:=0,bytes:=8 }),
 (382,{ agg:=false,bP:=[.fn],fs:=[],el:=0,ar:=0,bytes:=8 }),
 (384,{ agg:=false,bP:=[.fn],fs:=[],el:=0,ar:=0,bytes:=8 })]
def tt:TypeId->Option TI:=wJ JB
def RQ:tG Tryz.prog JB=true:=by kernel_rfl
def SC:pD Tryz.prog JB=true:=by kernel_rfl
def fD:ez Tryz.prog tt:=Ql RQ (Fq SC)
def mixed:Tryz.prog.follows .mixedOrders=true:=by kernel_rfl
end Go.VC.cc
namespace Go.VC.cc
open Go Go.VC
instance instDrY:Inhabited pY:=aaa
abbrev cf(n:Nat):dH:={tt:=tt,n:=n}
def g2:=cf 1
def g27:dH:={tt:=tt,n:=92,iU:=[(14,[0,1,2,3,4,5,6])]}
def g61:dH:={tt:=tt,n:=26,own:=[5]}
def g26:dH:={tt:=tt,n:=49,iU:=[(10,[0,1,2,3,4,5,6,7,8,9,10,11,12,13,14,15])]}
def g11:=cf 50
def g41:dH:={tt:=tt,n:=96,iU:=[(5,[0,1,2,3,4,5,6,7,8,9,10,11,12,13,14,15])]}
def g62:dH:={tt:=tt,n:=90,iU:=[(6,[0,1,2,3,4,5,6,7,8,9,10,11,12,13,14,15,16,17,18,19,20,21,22,23,24,25,26,27,28,29,30,31,32,33,34,35,36,37,38,39,40,41,42,43])]}
def g63:dH:={tt:=tt,n:=55,iU:=[(9,[0,1,2,3,4,6,7,8,9,10,5,11,12,13,14])]}
def Z0:dH:={tt:=tt,n:=27,iU:=[(6,[0,1,2,3,4,5,6,7,8,9])]}
def ZZ:dH:={tt:=tt,n:=21,own:=[5]}
def ZY:dH:={tt:=tt,n:=90,iU:=[(5,[0,1,2,3,4,5,6]),(11,[0,1,2,3,4,5,6,7,8,9,10,11,12,13])],own:=[44]}
def g28:dH:={tt:=tt,n:=29,iU:=[(4,[0,1,2]),(5,[0,1,2,3])]}
def g49:dH:={tt:=tt,n:=91,iU:=[(6,[0,1,2,3,4,5,6,7,8,9,10])]}
def g76:dH:={tt:=tt,n:=54,iU:=[(1,[0,1,3,4,2,6,5,7,8,9]),(5,[0,1,2,3,4,5,6]),(10,[0,1,2,3,4,5,6]),(12,[0,1,3,4,2,6,5,7,8,9])],ox:=[1,12]}
def ZC:dH:={tt:=tt,n:=60,iU:=[(14,[0,1,2,3,4,5])]}
def g64:dH:={tt:=tt,n:=55,iU:=[(7,[0,1,2,3,4,5,6,7,8,9,10,11,12,13,14,15,16,17,18,19]),(9,[0,1,2,3,4,5,6,7,8,9,10,11])]}
def Z4:dH:={tt:=tt,n:=106,iU:=[(5,[0,1,2,3,4,5,6,7,8,9,10,11]),(19,[0,1,2,3,4,5,6,7,8,9,12,10,11,13,14])]}
def Z3:dH:={tt:=tt,n:=149,iU:=[(3,[0,1,2,3,4,5,6,7,8,9,10,11,12,13,14,15]),(4,[0,1,2,3,4,5,6,7,8,9,10,11,12,13,14,15]),(13,[0,1,2,3,4,5,6,7,8,9,10,11,12,13,14]),(15,[0,1,2,3,4,5,6,7,8,9,10,11,12,13,14])],ox:=[5]}
def g87:dH:={tt:=tt,n:=48,iU:=[(11,[0,1,2,3,4,5,6])]}
def YK:=cf 9
def PQ:=cf 18
def ZT:dH:={tt:=tt,n:=8,own:=[5,2]}
def ZS:dH:={tt:=tt,n:=8,own:=[5,2]}
def ZR:dH:={tt:=tt,n:=15,iU:=[(1,[0,1,2,3,5,6,8,9,4,7,10,11,12])]}
def ZQ:dH:={tt:=tt,n:=12,iU:=[(1,[0,1,2,3,5,6,4,7,8,9])]}
def ZP:dH:={tt:=tt,n:=8,own:=[5,2]}
def ZO:dH:={tt:=tt,n:=8,own:=[5,2]}
def g82:dH:={tt:=tt,n:=36,pC:=[34,35],ox:=[6]}
def g84:dH:={tt:=tt,n:=36,pC:=[34,35],ox:=[6]}
def g86:dH:={tt:=tt,n:=23,iU:=[(2,[0,1,2,3,4,5,6,7])]}
def g79:dH:={tt:=tt,n:=9,live:=[149],eh:=[150],n0:=2}
def YO:dH:={tt:=tt,n:=4,n0:=1}
def g72:dH:={tt:=tt,n:=69,iU:=[(17,[0,1,2,3,4,5,6,7,8,9,10,11])],ox:=[2]}
def ZV:dH:={tt:=tt,n:=69,iU:=[(14,[0,1,2,3,4,6,7,8,9,10,5,11,12,13,14])]}
def ZK:dH:={tt:=tt,n:=85,iU:=[(7,[0,1,2,3,4,5,6,7,8,9,10,11,12,13]),(9,[0,1,2,3,4,5,6,7,8,9,10,11,12,13]),(14,[0,1,2,3,4,5])]}
def ZJ:dH:={tt:=tt,n:=68,live:=[200,202,80,79]}
def Zy:dH:={tt:=tt,n:=8,own:=[5,2]}
def ZU:dH:={tt:=tt,n:=8,own:=[5,2]}
def ZG:dH:={tt:=tt,n:=79,iU:=[(4,[0,1,3,4,2,6,5,7,8,9]),(8,[0,1,2,3,4,5,6,7,8]),(13,[0,1,2,3,4,5,6,7,8,9,10])],ox:=[4]}
def ZL:dH:={tt:=tt,n:=40,iU:=[(8,[0,1,2,3,4,5,6,7,8,9,10,11])]}
def ZN:dH:={tt:=tt,n:=5,live:=[194],eh:=[194],n0:=2}
def Vq:dH:={tt:=tt,n:=14,live:=[151],n0:=5}
def Fl:=cf 19
def ZB:dH:={tt:=tt,n:=16,n0:=2}
def ZA:dH:={tt:=tt,n:=21,live:=[251,250]}
def Ve:dH:={tt:=tt,n:=21,n0:=3,DB:=true,live:=[251,250]}
def Zz:dH:={tt:=tt,n:=16,live:=[200],n0:=3}
def Zx:dH:={tt:=tt,n:=8,own:=[5,2]}
def Vh:dH:={tt:=tt,n:=13,n0:=3}
def Vg:dH:={tt:=tt,n:=13,n0:=3,DB:=true}
def g7:=cf 37
def Zw:dH:={tt:=tt,n:=38,iU:=[(5,[0,2,3,1,4,5,6])]}
def Zv:dH:={tt:=tt,n:=12,live:=[285],eh:=[286],n0:=2}
def Vc:dH:={tt:=tt,n:=4,n0:=1}
def Zu:dH:={tt:=tt,n:=17,iU:=[(1,[0,1,2,3,5,6,7,8,4,9,10,11,12])]}
def Zt:dH:={tt:=tt,n:=8,live:=[256],n0:=3}
def Zs:dH:={tt:=tt,n:=23,live:=[256],n0:=5}
def g29:dH:={tt:=tt,n:=41,iU:=[(4,[0,1,2,3,4,5,6,7,8,9,10,11,12,13])]}
def g31:dH:={tt:=tt,n:=10,iU:=[(1,[0,1,3,4,2,5,6,7])]}
def Zo:dH:={tt:=tt,n:=61,iU:=[(5,[0,1,2,3,4,6,7,8,9,10,5,11,12,13,14]),(10,[0,1,3,2,4,5,6])]}
def Zn:dH:={tt:=tt,n:=46,iU:=[(8,[0,1,2,3,4,5,6,7,8])]}
def Zm:dH:={tt:=tt,n:=5,live:=[305],eh:=[305],n0:=2}
def U7:dH:={tt:=tt,n:=14,live:=[287],n0:=5}
def g65:dH:={tt:=tt,n:=59,iU:=[(17,[0,1,3,4,2,5,6,7])]}
def g67:dH:={tt:=tt,n:=57,iU:=[(5,[0,1,2,3,4,5,6,7,8,9,10,11,12,13])]}
def Z1:dH:={tt:=tt,n:=71,iU:=[(7,[0,1,2,3,4,5,6,7,8,9,10,11,12,13,14,15,16,17,18,19]),(9,[0,1,2,3,4,5,6,7,8,9,10,11,12,13,14,15,16,17,18,19])]}
def Zr:dH:={tt:=tt,n:=106,iU:=[(1,[0,1,2,3,4,5,6,7,8,9,10,11,12,13,14,15])]}
def Zq:dH:={tt:=tt,n:=33,iU:=[(4,[0,1,2,3,4,5,7,8,9,10,11,6,12,13,14])]}
def Zk:dH:={tt:=tt,n:=31,iU:=[(6,[0,1,2,3,4,5,6])]}
def Zi:dH:={tt:=tt,n:=36,iU:=[(8,[0,1,2,3,4,5,6])]}
def U4:dH:={tt:=tt,n:=13,n0:=3}
def U3:dH:={tt:=tt,n:=13,n0:=3,DB:=true}
def ZW:dH:={tt:=tt,n:=85,iU:=[(17,[0,1,2,3,4,5,6,7,8,9,10,11,12,13])]}
def ZD:dH:={tt:=tt,n:=108,iU:=[(3,[0,1,2,3,4,5,6,7,8,9,10,11,12,13,14,15,16,17]),(4,[0,1,2,3,4,5,6,7,8,9,10,11,12,13,14,15,16,17])]}
def ZH:dH:={tt:=tt,n:=22,iU:=[(2,[0,1,2,4,5,3,6,7,8])]}
end Go.VC.cc
namespace Go.VC
section
section
variable {a b:Int}{k:IntKind}{x y:List UInt8}{p q:Bool}{d e:D}
theorem kU:Std.lt a b=decide (a<b):=rfl
theorem vW:Std.le a b=decide (a<=b):=rfl
theorem gV:Std.eq a b=(a==b):=rfl
theorem fx:Std.add a b=a+b:=rfl
theorem pL:Std.sub a b=a-b:=rfl
theorem Qm:Std.mul a b=a*b:=rfl
theorem gj:Std.not p= !p:=rfl
theorem Qs:Std.beq p q=(p==q):=rfl
theorem Qp{c:Bool}:Std.ite c p q=(bif c then p else q):=rfl
theorem Dr:Std.seq x y=(x==y):=rfl
theorem gR:Std.fe x=(x.length:Int):=rfl
def Qo:Std.max a b=if b>a then b else a:=rfl
def Qn:Std.min a b=if b<a then b else a:=rfl
theorem n5:Std.idx a b=(0<=a/\a<b):=rfl
theorem Qr:Std.gr a b=(0<=a/\a<=b):=rfl
theorem Ac:Std.same a b=(a=b):=rfl
theorem fw:Std.inr .i64 a=(-9223372036854775808<=a/\a<=9223372036854775807):=rfl
theorem Qq{n:Int}:Std.asInt (.int n)=n:=rfl
theorem N0:Std.asBool (.bool p)=p:=rfl
theorem n2:Std.bG (.str x)=x:=rfl
end
variable {α:Type}{i:Nat}{l:List Int}{j:Int}{a b:List UInt8}
def bt{α:Type}(f:α->List D)(l:List α):D:=.list (l.map f)
theorem dp{α:Type}{f:α->List D}{l:List α}:Std.len (bt f l)=(l.length:Int):=by simp[Std,dS,bt,cg]
def cJ{f:α->List D}{l:List α}{j:Nat}(h:i<l.length):Std.cell (bt f l) (bj i) j=(f l[i]).getD j .nil:=by simp[Std,dS,bt,cg,cx,h]
theorem cD{α:Type}{f:α->List D}{l k:List α}:Std.app (bt f l) (bt f k)=bt f (l++k):=by simp[Std,dS,bt,cg]
def cY{f:α->List D}{l:List α}(h:i<l.length):Std.idx (bj i) (Std.len (bt f l)):=⟨eO _,by rw[dp];exact sf.2 h⟩
def fN{n:Nat}(h:i<n)(c:n<4294967297):Std.inr .i64 (Std.add (bj i) 1):=by rw[fw,fx];simp only[bD];omega
def lz{p:α->Bool}{l:List α}(h:i<l.length)(ha:(l.take i).all p=true)(c:p l[i]=true):(l.take (i+1)).all p=true:=by rw[k8 h,nI,ha];simp[c]
def all_false{p:α->Bool}{l:List α}(h:i<l.length)(c:p l[i]=false):l.all p=false:=by rw[xy];exact⟨l[i],br h,by simp[c]⟩
def o9{f:α->List D}{l:List α}{a b:Nat}:Std.part (bt f l) (a:Int) (b:Int)=bt f ((l.drop a).take (b-a)):=by simp[Std,dS,bt,cg,List.map_drop,Gc]
def re{f:α->List D}{l:List α}{a:Int}{off:Nat}{vs:List D}{y:α}(ha:a=i)(h:i<l.length)(g:(f l[i]).take off++vs++(f l[i]).drop (off+vs.length)=f y):Std.nK (bt f l) a off vs=bt f (l.set i y):=by
 subst ha;simp only[Std,dS,bt,cg,fp]
 congr 1
 apply Ak (by simp);intro j h1 J;simp only[List.getElem_modify,jT,List.getElem_set];split
 ·rename_i c;subst c;exact g
 ·rfl
theorem FZ{a b:Int}:Std.max a b=max a b:=by rw[Qo];split<;>omega
theorem NX{a b:Int}:Std.min a b=min a b:=by rw[Qn];split<;>omega
theorem vV{α:Type}{f:α->List D}{l:List α}{a b:Int}:Std.part (bt f l) a b=bt f ((l.drop a.toNat).take (b.toNat-a.toNat)):=by simp[Std,dS,bt,cg,List.map_drop,Gc]
theorem F0{d e:D}:Std.len (Std.app d e)=Std.len d+Std.len e:=by simp[Std,dS,cg]
theorem lC{l:List (List D)}:Std.len (Std.lit l)=(l.length:Int):=by simp[Std,dS,cg]
def Yj{f:α->List D}{x:α}{l:List D}(h:l=f x):Std.lit [l]=bt f [x]:=by subst h;rfl
theorem Ds{d:D}{i:Int}{off:Nat}{vs:List D}:Std.len (Std.nK d i off vs)=Std.len d:=by simp[Std,dS,cg]
def slt(a b:List UInt8):Bool:=Op.bytesLess a b
theorem NV{a b:List UInt8}:Std.slt a b=slt a b:=rfl
def kA(l:List Int):D:=bt (λj=>[D.int j]) l
def xt:Std.oe (kA l) j=kA (l++[j]):=by simp[Std,dS,kA,bt,cg]
def uG:Std.last (kA (l++[j]))=j:=by simp[Std,dS,kA,bt,cg]
def te{f:α->List D}{m:List α}(h:Std.qp (bt f m) (kA l) j):0<=j/\j<m.length/\j∉l:=by obtain⟨h1,J,h3⟩:=h;simp only[bt,kA,cg,bA]at J h3;refine⟨h1,J,λc=>h3 (bH.2 ⟨j,c,rfl⟩)⟩
def rh{f:α->List D}{m:List α}(h:Std.n1 (bt f m) (kA l)):∀j:Nat,j<m.length->(j:Int)∈l:=by intro j c;have:=h j (by simp[bt,cg];exact c);simp only[kA,bt,cg,bH]at this;obtain⟨x,g,he⟩:=this;simp at he;subst he;exact g
def o6:Std.len (kA l)=(l.length:Int):=dp
def BL{a:Int}:Std.asInt (Std.cell (kA l) a 0)=l.getD a.toNat 0:=by
 simp only[Std,dS,kA,bt,cg];rcases bR a.toNat l.length with h|h
 ·simp[fc,h]
 ·simp[fc,h]
def vh(a b:List UInt8):slt a b=decide (a<b):=Go.Proofs.bytesLess_eq a b
def gk(a:List UInt8):slt a a=false:=by rw[vh];simp
def mC{c:List UInt8}(h:slt a b=true)(f:slt b c=true):slt a c=true:=by rw[vh]at *;simp at *;exact List.lt_trans h f
def nP(h:slt a b=false)(c:slt b a=false):a=b:=by rw[vh]at *;simp at *;exact List.le_antisymm c h
def JH(h:slt a b=true):slt b a=false:=by rw[vh]at *;simp at *;exact List.le_of_lt h
def ou{α:Type}(p:α->Bool)(l:List α):Int:=match l.findIdx? p with|some i=>i|none=> -1
def mH{p:α->Bool}{l:List α}(h:i<l.length)(ha:∀x∈l.take i,p x=false)(c:p l[i]=true):ou p l=i:=by
 have:l.findIdx? p=some i:=by rw[kK];refine⟨h,c,λj f=>?_⟩;have:=ha l[j] (by rw[jY];exact⟨j,by omega,rfl⟩);simp[this]
 rw[ou,this]
def mI{p:α->Bool}{l:List α}(ha:∀x∈l,p x=false):ou p l= -1:=by
 have:l.findIdx? p=none:=by rw[pf];exact ha
 rw[ou,this]
def qQ{p:α->Bool}{l:List α}:l.any p=decide (0<=ou p l):=by
 cases h:l.findIdx? p with
 |none=>
  have h1:=pf.1 h;have:l.any p=false:=by rw[xx];intro x c;rw[h1 x c];simp
  simp only[ou,h,this];rfl
 |some i=>
  obtain⟨h1,J,_⟩:=kK.1 h;have:l.any p=true:=by rw[eV];exact⟨_,br h1,J⟩
  simp only[ou,h,this];simp
def nj(p:α->Bool)(l:List α):(ou p l= -1/\∀x∈l,p x=false)\/∃i,∃h:i<l.length,ou p l=(i:Int)/\p l[i]=true/\∀x∈l.take i,p x=false:=by
 cases h:l.findIdx? p with
 |none=>exact .inl ⟨by simp only[ou,h],pf.1 h⟩
 |some i=>obtain⟨h1,J,h3⟩:=kK.1 h;refine .inr ⟨i,h1,by simp only[ou,h],J,λx c=>?_⟩;rw[jY]at c;obtain⟨j,f,rfl⟩:=c;have:=h3 j (by omega);simpa using this
def cj{l:List α}(h:i<l.length):l.take (i+1)=l.take i++[l[i]]:=k8 h
theorem nbF:fP false=true:=rfl
theorem nbT:fP true=false:=rfl
def SD:=bk @nbF (bk @nbT (bk @dp (bk @kU (bk @vW (bk @gV (bk @fx (bk @pL (bk @Qm (bk @gj (bk @Qp (bk @n2 (bk @N0 (bk @Qq (bk @gR (bk @Dr (bk @NV (bk @Qs (bk @n5 (bk @Qr (bk @Ac (bk @FZ (bk @NX (bk @vV (bk @cD (bk @F0 (bk @lC (bk @Ds (bk @cF.{0} (bk @qi.{0} (bk @bp.{0} (bk @bI.{0} (bk @bZ.{0} (bk @fp (bk @fw (bk @bD (bk @Int.natCast_zero (bk @decide_eq_true_eq (bk @decide_eq_false_iff_not (bk @Am (bk @Bool.not_eq_false (bk @Bool.not_eq_eq_eq_not (bk @Gf (bk @tn (bk @beq_iff_eq.{0} (bk @beq_eq_false_iff_ne.{0} (bk @ne_eq.{1} (bk @Bool.true_eq_false (bk @cA (bk @cond_true.{1} (@cond_false.{1}))))))))))))))))))))))))))))))))))))))))))))))))))
abbrev FF:Prop:=False->False
section
variable {A:pP}
def fg(h:A=Std):∀b:Bool,A.not b= !b:=by rw[h];exactλ_=>rfl
def oY(h:A=Std):∀a b:Int,A.eq a b=(a==b):=by rw[h];exactλ_ _=>rfl
def IV(h:A=Std):∀a b:Int,A.lt a b=decide (a<b):=by rw[h];exactλ_ _=>rfl
def OT(h:A=Std):∀a b:List UInt8,A.seq a b=(a==b):=by rw[h];exactλ_ _=>rfl
def slA(h:A=Std):∀a b:List UInt8,A.slt a b=slt a b:=by rw[h];exactλ_ _=>rfl
def lenOf{α:Type}{f:α->List D}{l:List α}{d:D}(h:d=bt f l):∃n,n=l.length/\Std.len d=bj n:=⟨_,rfl,by rw[h,dp];rfl⟩
end
end
section
variable {p q r:Prop}{A:pP}{i n:Nat}{d:D}
def zf{P:Prop}(h:P:=by kernel_rfl):FF->P:=λ_=>h
def iX{α:Type}{f:α->List D}{l:List α}(a:A=Std)(b:d=bt f l)(h:i<l.length):A.idx (Int.ofNat i) (A.len d):=by rw[a,b];exact cY h
def jX(a:A=Std)(h:i<n)(b:n<4294967297:=by omega):A.inr .i64 (A.add (Int.ofNat i) 1):=by rw[a];exact fN h b
def lX(a:A=Std)(b:Std.len d=Int.ofNat n)(h:A.lt (Int.ofNat i) (A.len d)=true):i<n:=by subst a;rw[b]at h;exact Int.ofNat_lt.1 (of_decide_eq_true h)
def gX(a:A=Std)(b:Std.len d=Int.ofNat n)(h:A.lt (Int.ofNat i) (A.len d)=false):n<=i:=by subst a;rw[b]at h;have:=of_decide_eq_false h;exact Int.ofNat_le.1 (Int.not_lt.1 this)
def lY(a:A=Std)(b:Std.len d=Int.ofNat n)(h:A.lt (Int.ofNat i) (A.len d)=true)(k:i<n->p:=by intro;omega):p:=k (lX a b h)
def gY(a:A=Std)(b:Std.len d=Int.ofNat n)(h:A.lt (Int.ofNat i) (A.len d)=false)(k:n<=i->p:=by intro;omega):p:=k (gX a b h)
def yX(h:p:=by rw[X.a];rfl):p:=h
def yc(h:p:=by cbv;and_intros;all_goals first|trivial|(rw[X.a];rfl)):p:=h
def yR(e:q)(h:q->p:=by intro e;rw[X.a,e];simp only[SD];omega):p:=h e
def yH(h:p:=by rw[Y,Z];rfl):p:=h
def p1(k:q)(h:q->p:=by intro a;cbv;(repeat' (first|apply And.intro|exact zf|(intro J;cbv)|apply Or.inl));all_goals first|(clear a;assumption)|exact a):p:=h k
def p2(k:q)(l:r)(h:q->r->p:=by intro z y;cbv;(repeat' (first|apply And.intro|exact zf|(intro J;cbv)|apply Or.inl));all_goals first|(clear z y;assumption)|((try revert J);first|exact z|exact y)):p:=h k l
def p3{s:Prop}(k:q)(l:r)(m:s)(h:q->r->s->p:=by intro z y x;cbv;(repeat' (first|apply And.intro|exact zf|(intro J;cbv)|apply Or.inl));all_goals first|(clear z y x;assumption)|((try revert J);first|exact z|exact y|exact x)):p:=h k l m
def upl(k:Nat)(p:PV):cS->PV
 |[]=>p
 |(j,q)::u=>match nb j k with|true=>q|false=>upl k p u
def Ua(u a:cS):cS->cS
 |[]=>[]
 |(k,_)::s=>(k,upl k (look a k) u)::Ua u a s
section
variable {P:Program}{G:dH}{A:pP}{C:jm}{L:Code->St->(Ex->St->Prop)->Prop}{α:Type}{c:Code}{st:St}{Q:Ex->St->Prop}
def lp(X:Ctx P G A C L)(b:α->Prop)(h:α->Nat)(x0:α)(h0:b x0)(I:α->St)
 (round:∀x,b x->oA A G C L c (I x) λe a=>match e with| .normal=>∃j,b j/\h j<h x/\Sub G.n0 a (I j)| .exit i=>Q (.exit i) a| .ret=>Q .ret a) (g:Sub G.n0 st (I x0):=by exact yc):L (.loop c) st Q:=X.loop I b h x0 h0 g round
def lu(X:Ctx P G A C L)(b:α->Prop)(h:α->Nat)(x0:α)(h0:b x0)(u:α->cS)
 (round:∀x,b x->oA A G C L c ⟨Ua (u x) st.s st.s,st.o⟩ λe a=>match e with| .normal=>∃j,b j/\h j<h x/\Sub G.n0 a ⟨Ua (u j) st.s st.s,st.o⟩| .exit i=>Q (.exit i) a| .ret=>Q .ret a) (g:Sub G.n0 st ⟨Ua (u x0) st.s st.s,st.o⟩:=by exact yc):L (.loop c) st Q:=X.loop (λx=>⟨Ua (u x) st.s st.s,st.o⟩) b h x0 h0 g round
def lP(X:Ctx P G A C L)(b:α->Prop)(g:α->Nat)(x0:α)(h0:b x0)(ps:List Nat)(I:α->St)
 (round:∀x,b x->oA A G C L c (I x) λe a=>match e with| .normal=>∃h,b h/\g h<g x/\Dq G.n0 a (I h)| .exit i=>Q (.exit i) a| .ret=>Q .ret a) (j:(jD ps&&xF G.n0 0 ps)=true:=by rfl) (hs:Sub G.n0 (vu ps st) (I x0):=by exact yc):L (.loop c) st Q:=X.ka I b g x0 h0 ⟨ps,j,hs⟩ round
end
end
end Go.VC
namespace Go.VC.cc
open Go Go.VC Go.Proofs
section
variable {f:FuncId}{fn:Func}{c:Code}{args:List PV}{K:PV->List Ob->Prop}
abbrev FT:=FC Tryz.prog tt
def en(G:dH)(hf:Tryz.prog.funcs[f]? =some fn)(h:∀(A:pP)(C:jm)(L:Code->St->(Ex->St->Prop)->Prop),Ctx Tryz.prog G A C L->
 oA A G C L c ⟨mg 0 args,[]⟩ λe st=>match e with| .exit _=>False|_=>CD G 0 fn.results.toList st K)
 (hb:fn.body=some c:=by rfl) (g:(fn.name== "runtime.NumGoroutine")=false:=by rfl) (h1:G.tt=tt:=by rfl) (j:fn.ntmps=G.n:=by rfl) (b:G.n0=0:=by rfl) (a:iD (bY args) G.n=true:=by rfl):FC Tryz.prog tt f [] args K:=by
 rw[<- h1];exact FC.enter (by rw[h1];exact fD) mixed ⟨hf,g,hb⟩ j b a h
def eo(G:dH)(hf:Tryz.prog.funcs[f]? =some fn)(h:∀(A:pP)(C:jm)(L:Code->St->(Ex->St->Prop)->Prop),Ctx Tryz.prog G A C L->
 oA A G C L c ⟨mg 0 args,[]⟩ λe st=>match e with| .exit _=>False|_=>xg G 0 fn.results.toList st K)
 (hb:fn.body=some c:=by rfl) (g:(fn.name== "runtime.NumGoroutine")=false:=by rfl) (h1:G.tt=tt:=by rfl) (j:fn.ntmps=G.n:=by rfl) (b:G.n0=0:=by rfl) (a:iD (bY args) G.n=true:=by rfl):FC Tryz.prog tt f [] args K:=by
 rw[<- h1];exact FC.jN (by rw[h1];exact fD) mixed ⟨hf,g,hb⟩ j b a h
end
def el(G:dH){f:FuncId}{fn:Func}{c:Code}{objs:List Ob}{args:List PV}{K:PV->List Ob->Prop}(hf:Tryz.prog.funcs[f]? =some fn)(h:∀(A:pP)(C:jm)(L:Code->St->(Ex->St->Prop)->Prop),Ctx Tryz.prog G A C L->
 oA A G C L c (vF objs args) λe st=>match e with| .exit _=>False|_=>lh G G.n0 fn.results.toList st K)
 (hb:fn.body=some c:=by rfl) (g:(fn.name== "runtime.NumGoroutine")=false:=by rfl) (h1:G.tt=tt:=by rfl) (j:fn.ntmps=G.n:=by rfl) (b:bY objs=G.n0:=by rfl) (a:iD (bY args) G.n=true:=by rfl):FC Tryz.prog tt f objs args K:=by
 rw[<- h1];exact FC.Kt (by rw[h1];exact fD) mixed ⟨hf,g,hb⟩ j b a h
end Go.VC.cc
namespace Go.VC
section
abbrev S:=List UInt8
mutual
inductive Ty where|mk (k:Int) (m n:S) (ar:List Ty) (fl:List Fe)
inductive Fe where|mk (s:S) (t:Ty) (b:Bool)
end
def Ty.k:Ty->Int| .mk k _ _ _ _=>k
def Ty.m:Ty->S| .mk _ m _ _ _=>m
def Ty.n:Ty->S| .mk _ _ n _ _=>n
def Ty.ar:Ty->List Ty| .mk _ _ _ ar _=>ar
def Ty.fl:Ty->List Fe| .mk _ _ _ _ fl=>fl
def Fe.s:Fe->S| .mk s _ _=>s
def Fe.t:Fe->Ty| .mk _ t _=>t
def Fe.b:Fe->Bool| .mk _ _ b=>b
mutual
def ca:Ty->List D| .mk k m n ar fl=>[.int k,.str m,.str n,.list (vR ar),.list (vS fl)]
def fj:Fe->List D| .mk s t b=>.str s::(ca t++[.bool b])
def vR:List Ty->List (List D)|[]=>[]|t::l=>ca t::vR l
def vS:List Fe->List (List D)|[]=>[]|f::l=>fj f::vS l
end
def BJ:∀l:List Ty,vR l=l.map ca
 |[]=>by simp[vR]
 |t::l=>by simp[vR,BJ l]
def BM:∀l:List Fe,vS l=l.map fj
 |[]=>by simp[vS]
 |t::l=>by simp[vS,BM l]
def dn(t:Ty):ca t=[.int t.k,.str t.m,.str t.n,bt ca t.ar,bt fj t.fl]:=by cases t;simp[ca,BJ,BM,bt,Ty.k,Ty.m,Ty.n,Ty.ar,Ty.fl]
def nx(f:Fe):fj f=[.str f.s,.int f.t.k,.str f.t.m,.str f.t.n,bt ca f.t.ar,bt fj f.t.fl,.bool f.b]:=by cases f;simp[fj,dn,Fe.s,Fe.t,Fe.b]
def cr(t:Ty)(b:Int)(c1 c2:S)(c a:D):Prop:=b=t.k/\c1=t.m/\c2=t.n/\c=bt ca t.ar/\a=bt fj t.fl
structure Pm where
 name:S
 var:Int
 bound:Ty
structure TE where
 name:S
 params:List Pm
 lower:Ty
 upper:Ty
structure VE where
 name:S
 params:List Pm
 ty:Ty
structure AE where
 name:S
 module:S
 target:S
structure DE where
 name:S
 note:S
structure IF where
 path:S
 types:List TE
 values:List VE
 aliases:List AE
 deprecated:List DE
structure US where
 module:S
 name:S
def dB(p:Pm):List D:=.str p.name:: .int p.var::ca p.bound
def fZ(x:TE):List D:=.str x.name::bt dB x.params::(ca x.lower++ca x.upper)
def mj(x:VE):List D:=.str x.name::bt dB x.params::ca x.ty
def qW(x:AE):List D:=[.str x.name,.str x.module,.str x.target]
def uy(x:DE):List D:=[.str x.name,.str x.note]
def dy(x:IF):List D:=[.str x.path,bt fZ x.types,bt mj x.values,bt qW x.aliases,bt uy x.deprecated]
def cT(s:S):List D:=[.str s]
def o5(p:Pm):dB p=[.str p.name,.int p.var,.int p.bound.k,.str p.bound.m,.str p.bound.n,bt ca p.bound.ar,bt fj p.bound.fl]:=by simp[dB,dn]
def o4(x:TE):fZ x=[.str x.name,bt dB x.params,.int x.lower.k,.str x.lower.m,.str x.lower.n,bt ca x.lower.ar,bt fj x.lower.fl,.int x.upper.k,.str x.upper.m,.str x.upper.n,bt ca x.upper.ar,bt fj x.upper.fl]:=by simp[fZ,dn]
def zJ(x:VE):mj x=[.str x.name,bt dB x.params,.int x.ty.k,.str x.ty.m,.str x.ty.n,bt ca x.ty.ar,bt fj x.ty.fl]:=by simp[mj,dn]
section
variable {A:pP}{d:D}{i:Nat}
variable {l:List TE}{α:Type}
def cellAt{f:α->List D}{l:List α}(ha:A=Std)(a:d=bt f l)(h:i<l.length)(j:Nat):A.cell d (bj i) j=(f l[i]).getD j .nil:=by subst ha a;exact cJ h
def iS{l:List Ty}(ha:A=Std)(a:d=bt ca l)(h:i<l.length):cr l[i] (A.asInt (A.cell d (bj i) 0)) (A.bG (A.cell d (bj i) 1)) (A.bG (A.cell d (bj i) 2)) (A.cell d (bj i) 3) (A.cell d (bj i) 4):=by simp only[cellAt ha a h];subst ha;rw[dn];exact⟨rfl,rfl,rfl,rfl,rfl⟩
def nq{l:List Fe}(ha:A=Std)(a:d=bt fj l)(h:i<l.length):cr l[i].t (A.asInt (A.cell d (bj i) 1)) (A.bG (A.cell d (bj i) 2)) (A.bG (A.cell d (bj i) 3)) (A.cell d (bj i) 4) (A.cell d (bj i) 5):=by simp only[cellAt ha a h];subst ha;rw[nx];exact⟨rfl,rfl,rfl,rfl,rfl⟩
def Hq{l:List Fe}(ha:A=Std)(a:d=bt fj l)(h:i<l.length):A.bG (A.cell d (bj i) 0)=l[i].s/\A.asBool (A.cell d (bj i) 6)=l[i].b:=by simp only[cellAt ha a h];subst ha;rw[nx];exact⟨rfl,rfl⟩
def GX{l:List Pm}(ha:A=Std)(a:d=bt dB l)(h:i<l.length):cr l[i].bound (A.asInt (A.cell d (bj i) 2)) (A.bG (A.cell d (bj i) 3)) (A.bG (A.cell d (bj i) 4)) (A.cell d (bj i) 5) (A.cell d (bj i) 6):=by simp only[cellAt ha a h];subst ha;rw[o5];exact⟨rfl,rfl,rfl,rfl,rfl⟩
def Es{l:List Pm}(ha:A=Std)(a:d=bt dB l)(h:i<l.length):A.bG (A.cell d (bj i) 0)=l[i].name/\A.asInt (A.cell d (bj i) 1)=l[i].var:=by simp only[cellAt ha a h];subst ha;rw[o5];exact⟨rfl,rfl⟩
def RN(ha:A=Std)(a:d=bt fZ l)(h:i<l.length):cr l[i].lower (A.asInt (A.cell d (bj i) 2)) (A.bG (A.cell d (bj i) 3)) (A.bG (A.cell d (bj i) 4)) (A.cell d (bj i) 5) (A.cell d (bj i) 6):=by simp only[cellAt ha a h];subst ha;rw[o4];exact⟨rfl,rfl,rfl,rfl,rfl⟩
def RM(ha:A=Std)(a:d=bt fZ l)(h:i<l.length):cr l[i].upper (A.asInt (A.cell d (bj i) 7)) (A.bG (A.cell d (bj i) 8)) (A.bG (A.cell d (bj i) 9)) (A.cell d (bj i) 10) (A.cell d (bj i) 11):=by simp only[cellAt ha a h];subst ha;rw[o4];exact⟨rfl,rfl,rfl,rfl,rfl⟩
def RO(ha:A=Std)(a:d=bt fZ l)(h:i<l.length):A.bG (A.cell d (bj i) 0)=l[i].name/\A.cell d (bj i) 1=bt dB l[i].params:=by simp only[cellAt ha a h];subst ha;rw[o4];exact⟨rfl,rfl⟩
def RE{l:List VE}(ha:A=Std)(a:d=bt mj l)(h:i<l.length):cr l[i].ty (A.asInt (A.cell d (bj i) 2)) (A.bG (A.cell d (bj i) 3)) (A.bG (A.cell d (bj i) 4)) (A.cell d (bj i) 5) (A.cell d (bj i) 6):=by simp only[cellAt ha a h];subst ha;rw[zJ];exact⟨rfl,rfl,rfl,rfl,rfl⟩
def RF{l:List VE}(ha:A=Std)(a:d=bt mj l)(h:i<l.length):A.bG (A.cell d (bj i) 0)=l[i].name/\A.cell d (bj i) 1=bt dB l[i].params:=by simp only[cellAt ha a h];subst ha;rw[zJ];exact⟨rfl,rfl⟩
def SU{l:List AE}(ha:A=Std)(a:d=bt qW l)(h:i<l.length):A.bG (A.cell d (bj i) 0)=l[i].name/\A.bG (A.cell d (bj i) 1)=l[i].module/\A.bG (A.cell d (bj i) 2)=l[i].target:=by simp only[cellAt ha a h];subst ha;exact⟨rfl,rfl,rfl⟩
def Z9{l:List DE}(ha:A=Std)(a:d=bt uy l)(h:i<l.length):A.bG (A.cell d (bj i) 0)=l[i].name/\A.bG (A.cell d (bj i) 1)=l[i].note:=by simp only[cellAt ha a h];subst ha;exact⟨rfl,rfl⟩
def Yo{l:List IF}(ha:A=Std)(a:d=bt dy l)(h:i<l.length):A.bG (A.cell d (bj i) 0)=l[i].path/\A.cell d (bj i) 1=bt fZ l[i].types/\A.cell d (bj i) 2=bt mj l[i].values/\A.cell d (bj i) 3=bt qW l[i].aliases/\A.cell d (bj i) 4=bt uy l[i].deprecated:=by simp only[cellAt ha a h];subst ha;exact⟨rfl,rfl,rfl,rfl,rfl⟩
def pT{l:List S}(ha:A=Std)(a:d=bt cT l)(h:i<l.length):A.bG (A.cell d (bj i) 0)=l[i]:=by simp only[cellAt ha a h];subst ha;rfl
def gE{f:α->List D}{l:List α}(ha:A=Std)(a:d=bt f l):A.len d=bj l.length:=by subst ha a;exact dp
end
def Ty.parts{P:Ty->Prop}(h:∀t:Ty,(∀u∈t.ar,P u)->(∀f∈t.fl,P f.t)->P t):∀t,P t:=by
 have key:∀(n:Nat)(t:Ty),pe t<=n->P t:=by
  intro n;induction n with
  |zero=>intro t a;cases t;simp at a
  |succ n b=>
   intro t a;refine h t (λu hu=>b u ?_) (λf hf=>b f.t ?_)
   ·cases t with
    |mk k m s ar fl=>have:=KP (show u∈ar from hu);simp at a;omega
   ·cases t with
    |mk k m s ar fl=>
     have:=KP (show f∈fl from hf);have J:pe f.t<pe f:=by cases f;simp[Fe.t];omega
     simp at a;omega
 exactλt=>key _ t (bX _)
def Ty.ext{t u:Ty}(h0:t.k=u.k)(h1:t.m=u.m)(J:t.n=u.n)(h3:t.ar=u.ar)(h4:t.fl=u.fl):t=u:=by cases t;cases u;simp only[Ty.k,Ty.m,Ty.n,Ty.ar,Ty.fl]at *;subst h0 h1 J h3 h4;rfl
def Fe.ext{t u:Fe}(h0:t.s=u.s)(h1:t.t=u.t)(J:t.b=u.b):t=u:=by cases t;cases u;simp only[Fe.s,Fe.t,Fe.b]at *;subst h0 h1 J;rfl
open Classical in
noncomputable def same{α:Type}(a b:α):Bool:=decide (a=b)
def fL{α:Type}{a b:α}:same a b=true↔a=b:=by simp[same]
def mD{α:Type}(a:α):same a a=true:=fL.2 rfl
def pk{α:Type}{a b:α}(h:a≠b):same a b=false:=by
 cases hb:same a b with
 |false=>rfl
 |true=>exact absurd (fL.1 hb) h
inductive Ty.le (n:Nat):Ty->Prop
 |mk (t:Ty) (ha:t.ar.length<=n) (hf:t.fl.length<=n) (h1:∀u∈t.ar,Ty.le n u) (h2:∀f∈t.fl,Ty.le n f.t):Ty.le n t
end
section
variable {α:Type}
abbrev dQ(b:Int)(c1 c2:S)(c a:D):PV:=.agg [.int .i64 b,.str c1,.str c2,.lst 29 c,.lst 57 a]
def xX{l m:List α}(h:l.length≠m.length):same l m=false:=pk λe=>h (by rw[e])
def xY{l m:List α}{i:Nat}(h1:i<l.length)(J:i<m.length)(h:l[i]≠m[i]):same l m=false:=pk λe=>by subst e;exact h rfl
def JO{l m:List α}(hl:l.length=m.length)(h:l.take l.length=m.take l.length):same l m=true:=by rw[bz,hl,bz]at h;exact fL.2 h
end
end Go.VC
namespace Go.VC.cc
open Go Go.VC Go.Proofs
end Go.VC.cc
namespace Go.VC
section
variable {t u:Ty}{n:Nat}
def JN(h:t.k≠u.k):same t u=false:=pk λe=>h (by rw[e])
def JM(h:t.m≠u.m):same t u=false:=pk λe=>h (by rw[e])
def JL(h:t.n≠u.n):same t u=false:=pk λe=>h (by rw[e])
def A3(h:same t.fl u.fl=false):same t u=false:=pk λe=>by rw[e,mD]at h;cases h
def OZ(h0:t.k=u.k)(h1:t.m=u.m)(J:t.n=u.n)(h4:t.fl=u.fl):same t.ar u.ar=same t u:=by
 cases hb:same t.ar u.ar with
 |true=>exact(fL.2 (Ty.ext h0 h1 J (fL.1 hb) h4)).symm
 |false=>exact(pk λe=>by rw[e,mD]at hb;cases hb).symm
def AU{α:Type}{l m:List α}(hl:l.length=m.length)(h:l.take l.length=m.take l.length):l=m:=by rw[bz,hl,bz]at h;exact h
def ru(h:Ty.le n t):t.ar.length<=n:=by cases h;assumption
def xf(h:Ty.le n t):t.fl.length<=n:=by cases h;assumption
def u7(h:Ty.le n t):∀u∈t.ar,Ty.le n u:=by cases h;assumption
def xJ(h:Ty.le n t):∀f∈t.fl,Ty.le n f.t:=by cases h;assumption
end
end Go.VC
namespace Go.VC.cc
open Go Go.VC Go.Proofs
end Go.VC.cc
namespace Go.VC
section
variable [Inhabited pY]
open Go Go.Sort Go.Proofs
inductive pN {α β:Type} (R:α->β->Prop):List α->List β->Prop
 |nil:pN R [] []
 |cons {a b x y} (h:R a b) (t:pN R x y):pN R (a::x) (b::y)
def pN.length{α β:Type}{R:α->β->Prop}{x:List α}{y:List β}(h:pN R x y):x.length=y.length:=by
 induction h with
 |nil=>rfl
 |cons _ _ a=>simp[a]
def pN.get{α β:Type}{R:α->β->Prop}{x:List α}{y:List β}(h:pN R x y)(i:Nat)(h1:i<x.length)(h2:i<y.length):R x[i] y[i]:=by
 induction h generalizing i with
 |nil=>simp at h1
 |cons h t a=>
  cases i with
  |zero=>exact h
  |succ i=>exact a i (yU h1) (yU h2)
def pN.mX{α β:Type}{R:α->β->Prop}:∀{x:List α}{y:List β},x.length=y.length->(∀i (h1:i<x.length) (h2:i<y.length),R x[i] y[i])->pN R x y
 |[],[],_,_=>.nil
 |a::x,b::y,hl,h=>.cons (h 0 yS yS) (pN.mX (yU hl) λi h1 h2=>h (i+1) (yU h1) (yU h2))
 |[],_::_,hl,_=>yE hl
 |_::_,[],hl,_=>yE hl
def pN.perm{α β:Type}{R:α->β->Prop}{x i:List α}(j:i.Perm x):∀{y:List β},pN R x y->∃c,c.Perm y/\pN R i c:=by
 induction j with
 |nil=>intro y h;cases h;exact⟨[],.nil,.nil⟩
 |cons a _ o=>
  intro y h;cases h with
  |cons h t=>obtain⟨c,h1,h2⟩:=o t;exact⟨_::c,h1.cons _,.cons h h2⟩
 |swap a b l=>
  intro y h;cases h with
  |cons h t=>
   cases t with
   |cons n t=>exact⟨_::_::_,.swap _ _ _,.cons n (.cons h t)⟩
 |trans _ _ g d=>intro y h;obtain⟨q,h1,h2⟩:=d h;obtain⟨p,h3,h4⟩:=g h2;exact⟨p,h3.trans h1,h4⟩
structure AG (tt:TypeId->Option TI) (Pp:fQ) (e:TypeId) (us:List Value) (row:List D):Prop where
 l1:us.length=(bN tt e).length
 l2:row.length=(bN tt e).length
 rd:∀(j:Nat) d ck,row[j]? =some d->(bN tt e)[j]? =some ck->∃v,us[j]? =some v/\RD tt Pp ck v d
section
variable {α:Type} [Inhabited α] {P:Program}{tt:TypeId->Option TI}{f:FuncId}{e:TypeId}
variable {w:World}{gu:Nat}{K:PV->List Ob->Prop}
def PW{g:FuncId}(b:iC g kB=true:=by rfl):∀E Pp vs,eM tt E Pp vs [.cu g []]->vs=[.func (.func g) #[] #[]]:=by
 intro E Pp vs h;cases h with
 |cons v _ vs _ h1 h2=>
 cases h2;cases h1 with
 |cu _ _ cs _ hu a=>
 obtain rfl:=hu.get b;cases a;rfl
def SA:∀E Pp vs,eM tt E Pp vs []->vs=[]:=by intro E Pp vs h;cases h;rfl
def BF(enc:α->Value)(d:Array α):flatK (λx=>[enc x]) 1 d=d.map enc:=by apply QJ yS;intro i h1 h2;have a:i<d.size:=yU h2;simp only[flatK,Array.getElem_map,Array.getElem_range,Nat.div_one,Nat.mod_one];rw[getElem!_pos d i a];rfl
def holds_one{enc:α->Value}{off:Nat}{d:Array α}(h:HoldsK (λx=>[enc x]) 1 w gu off d):Holds enc w gu off d:=by intro j a;have:=h j (by rw[size_flatK];omega);rw[BF]at this;rw[getElem!_pos (d.map enc) j (yU a)]at this;rw[getElem!_pos d j a];simpa using this
def GS(enc:α->Value)(w:World)(gu off:Nat)(d:Array α):putRow enc w gu off d=putRow id w gu off (flatK (λx=>[enc x]) 1 d):=by
 rw[BF];unfold putRow
 congr 1
 funext c;unfold putCells
 congr 1
 funext k x;simp only[DA,id];split
 ·rename_i h;rw[getElem!_pos d (k-off) yO,getElem!_pos (d.map enc) (k-off) yQ];simp
 ·rfl
def BP{t n k:Nat}(h:t<n*k):t/k<n/\t % k<k/\t=t/k*k+t % k:=by
 have hk:0<k:=by
  rcases xe k with a|a
  ·subst a;simp at h
  ·exact a
 exact⟨(K1 hk).2 h,QF _ hk,by rw[jb];exact(Nat.div_add_mod t k).symm⟩
def JG{E:List RI}{Pp:fQ}{vals:List Value}(enc:α->List Value)(cf:α->α->Int)(am:List D->List D->Bool)(ex:List PV)(ev:List Value)(aQ:∀E Pp vs,eM tt E Pp vs ex->vs=ev)
 (hk:∀x,(enc x).length=(bN tt e).length)
 (hS:∀(gu off cap:Nat)(d:Array α),HoldsK enc (bN tt e).length w gu off d->gu<w.heap.size->d.size<4611686018427387904->(∀ad v,Pp ad v->ad.block≠gu)->
   Calls P f ⟨.slice (some ⟨gu,off,none⟩) d.size cap::ev⟩ w λe' w'=>e'= .returned (.tuple #[])/\∃d' n os,PermIn 0 d.size d d'/\SortedIn (ltOf cf) 0 d.size d'/\w'=sortWorldK enc (bN tt e).length w gu off n d' os)
 (hN:∀(p:Option Addr)(cap:Nat)(w:World),Calls P f ⟨.slice p 0 cap::ev⟩ w λe' w'=>e'= .returned (.tuple #[])/\w'=w)
 (hE:∀args w,(callFunc f args).run P w= .ok (.enter f args) w)
 (rows:List (List D)) (hn:rows.length<4611686018427387904)
 (aE:∀us row,row∈rows->AG tt Pp e us row->∃x:α,enc x=us)
 (dA:∀x y rx ry,AG tt Pp e (enc x) rx->AG tt Pp e (enc y) ry->ltOf cf x y=am rx ry)
 (h:∀a,a.Perm rows->(∀i j (l:i<a.length) (O:j<a.length),i<j->am a[j] a[i]=false)->K (.tup []) [.row e (.list a) true])
 (hw:WR tt E Pp [.row e (.list rows) true] w) (hv:eM tt E Pp vals (.row e 0::ex)):
 mA P f vals w (lV tt E Pp [.row e (.list rows) true] w K):=by
 cases hv with
 |cons v0 _ aD _ aO aG=>
 have aA:=aQ _ _ _ aG;subst aA;have aN:=hw.len;obtain⟨ri,A,Q⟩:=hw.ob 0 _ rfl rfl;refine .inl ⟨hE _ _,?_⟩;have g:∀p cap,v0= .slice p 0 cap->rows=[]->Calls P f ⟨v0::aD⟩ w (lV tt E Pp [.row e (.list rows) true] w K):=by rintro p cap rfl rfl;refine(hN p cap w).mono ?_;rintro e' w' ⟨rfl,rfl⟩;refine⟨_,E,Pp,[.row e (.list []) true],_,rfl,.refl _,λ_ _ h=>h,hw,.tup [] [] .nil,h [] (List.Perm.refl _) (λi j l=>yE l),Fr.refl _ _,λ_ _ h=>.inl h,?_⟩;intro i o ri b ho hl R hb;exact .inr ⟨i,o,ri,ho,hl,R,hb⟩
 cases aO with
 |row0 _ _ hr=>rw[A]at hr;cases hr;simp only[OR,D.list.injEq]at Q;exact g _ _ rfl Q
 |row _ _ N o len cap hr=>
  rw[A]at hr;cases hr;simp only[OR,D.list.injEq]at Q;obtain⟨vs,T,aL,c,aP,u,U,ec,dN,C,_⟩:=Q;subst aP;obtain⟨k,q⟩:∃k,k=(bN tt e).length:=⟨_,rfl⟩;rcases xe len with h0|aU
  ·subst h0;exact g _ _ rfl (cm u)
  have az:N<w.heap.size:=by
   rcases bR N w.heap.size with h'|h'
   ·exact h'
   ·rw[cR h']at c;simp at c
  have aC:o+len*k<=vs.length:=by have:=dq k U;rw[<- q]at ec;omega
  have ax:∀i (l:i<len),AG tt Pp e ((vs.drop (o+i*k)).take k) (rows[i]'yO):=by
   intro i l;obtain⟨h1,h2⟩:=dN i rows[i] (by simp[u,l]);have al:(i+1)*k<=len*k:=dq k l;rw[dz,p4]at al;refine⟨by rw[cF,qi,<-q];omega,h1,?_⟩;intro j dd ck O B;obtain⟨v,hv,iK⟩:=h2 j dd ck O B;have F:j<k:=by rw[q];exact(dr.1 B).1
   refine⟨v,?_,iK⟩;rw[cN F,eN];rw[<- q]at hv;exact hv
  have hx:∀i (l:i<len),∃x:α,enc x=(vs.drop (o+i*k)).take k:=λi l=>aE _ _ (br _) (ax i l);obtain⟨xs,aF,aw⟩:∃xs:List α,xs.length=len/\∀i (l:i<xs.length),enc xs[i]=(vs.drop (o+i*k)).take k:=by refine⟨(dF len).map λi=>if l:i<len then Classical.choose (hx i l)else default,yS,?_⟩;intro i l;have an:i<len:=yU l;simp only[jT,Ot,an,dif_pos];exact Classical.choose_spec (hx i an)
  have fW:xs.toArray.size=len:=by simp[aF]
  have hR:pN (λx r=>AG tt Pp e (enc x) r) xs rows:=pN.mX yO λi h1 h2=>by rw[aw i h1];exact ax i yO
  have flat:∀(d:Array α),d.size=len->∀t,t<len*k->∃(x:α) (hq:t/k<d.size),x=d[t/k]/\(flatK enc k d)[t]! =(enc x)[t % k]! :=by intro d hd t ht;obtain⟨h1,h2,h3⟩:=BP ht;refine⟨_,yO,rfl,?_⟩;rw[get_flatK enc k d t (by rw[hd];exact ht),getElem!_pos d (t/k) yO]
  have hH:HoldsK enc k w N o xs.toArray:=by
   intro t ht;rw[size_flatK,fW]at ht;obtain⟨h1,h2,h3⟩:=BP ht;obtain⟨x,hq,aj,Y⟩:=flat xs.toArray fW t ht;refine⟨?_,?_⟩
   ·simp only[World.cell?,c,n9,cA,if_false,id];rw[Y,aj];have ay:t/k<xs.length:=yO;have e1:=aw (t/k) ay;simp only[List.getElem_toArray];rw[e1];have a3:((vs.drop (o+t/k*k)).take k).length=k:=by rw[<- e1,hk,q]
    rw[getElem!_pos _ (t % k) yO];rw[List.getElem_take,List.getElem_drop];have J:o+t<vs.length:=yO;have:(⟨vs⟩:Array Value)[o+t]? =some vs[o+t]:=by simp[J]
    rw[this]
    congr 2
    omega
   ·simp only[World.frozen?,c];simp
  rw[<- q]at hS;have hC:=hS N o cap xs.toArray hH az (by rw[fW,<-u];exact hn) (λad v S=>C trivial ad v S);rw[fW]at hC;refine hC.mono ?_;rintro e' w' ⟨rfl,d',n,os,hp,hs,rfl⟩;have ap:d'.size=len:=by rw[hp.1,fW]
  have ab:d'.toList.Perm xs:=by have:=hp.2.2;rw[jq yO,jq yO]at this;simpa using this
  obtain⟨a,ar,af⟩:=pN.perm ab hR;have aI:a.length=len:=by rw[ar.length_eq,u]
  obtain⟨W,hW⟩:∃W,W=sortWorldK enc k w N o n d' os:=⟨_,rfl⟩;rw[<- hW]
  have V:∀b,b<w.heap.size->W.heap[b]? =(w.heap[b]?).map λx=>if b=N then onCells (putCells id o (flatK enc k d')) x else x:=by
   intro b hb;rw[hW];simp only[sortWorldK,putRowK,putRow,grow,mapBlock,Sort.ahead];rw[gK (by simp;exact hb),jn];by_cases I:N=b
   ·subst I;simp
   ·rw[if_neg I];cases w.heap[b]? with
    |none=>rfl
    |some x=>simp[dZ I]
  obtain⟨s,G⟩:∃s,s=(putCells id o (flatK enc k d') ⟨vs⟩).toList:=⟨_,rfl⟩;have X:W.heap[N]? =some (.cells ⟨s⟩ e (0,0)):=by rw[V N az,c];simp[onCells,G]
  have aM:s.length=vs.length:=by rw[G];simp[putCells]
  have ae:∀t,t<len*k->s[o+t]? =some (flatK enc k d')[t]! :=by intro t ht;rw[G];simp only[putCells,Array.toList_mapIdx];rw[List.getElem?_mapIdx];have J:o+t<vs.length:=yO;simp only[bu J,cv];rw[size_flatK,ap,if_pos yO];simp
  have ag:w.heap.size<=W.heap.size:=by rw[hW];simp[sortWorldK,putRowK,putRow,grow,mapBlock,Sort.ahead]
  have z:∀b,b<w.heap.size->b≠N->W.heap[b]? =w.heap[b]? :=by
   intro b hb Z;rw[V b hb];cases w.heap[b]? with
   |none=>rfl
   |some x=>simp[Z]
  have ak:wR tt Pp e s o a:=by
   intro i row l;have aR:i<a.length:=(dr.1 l).1;have H:row=a[i]:=((dr.1 l).2).symm;have M:=af.get i yQ aR;rw[<- H]at M;refine⟨M.l2,?_⟩;intro j dd ck O B;obtain⟨v,hv,iK⟩:=M.rd j dd ck O B;refine⟨v,?_,iK⟩;have F:j<k:=by rw[q];exact(dr.1 B).1
   have al:(i+1)*k<=len*k:=dq k yO;rw[dz,p4]at al;rw[<- q,fi,ae (i*k+j) yO];obtain⟨x,hq,aj,Y⟩:=flat d' ap (i*k+j) yO;have aB:(i*k+j)/k=i:=by rw[jb,sC yO,rn F,iw]
   have aq:(i*k+j) % k=j:=by rw[jb,Dx,AH F]
   rw[Y,aq];have aJ:x=d'.toList[i]'yQ:=by rw[aj];simp[aB]
   rw[aJ];have ao:j<(enc (d'.toList[i]'yQ)).length:=by rw[hk,<-q];exact F
   rw[getElem!_pos _ j ao];rw[bu ao]at hv;exact hv
  have L:∀i j (l:i<a.length) (O:j<a.length),i<j->am a[j] a[i]=false:=by intro i j l O aH;have:=hs i j (bw _) aH yO;rw[getElem!_pos d' i yO,getElem!_pos d' j yO]at this;rw[<- dA d'[j] d'[i] _ _ (by have:=af.get j yQ O;simpa using this) (by have:=af.get i yQ l;simpa using this)];exact this
  have C:=C trivial;refine⟨_,E,Pp,[.row e (.list a) true],_,rfl,.refl _,λ_ _ h=>h,?_,.tup [] [] .nil,h a ar L,?_,λ_ _ h=>.inl h,?_⟩
  ·refine⟨by rw[aN];rfl,?_,?_,?_,hw.gl⟩
   ·intro ad v S;have Z:=C ad v S;have hc:=hw.pi ad v S;rw[ia (z _ (yu hc) Z)];exact hc
   ·intro i ob ho hl;cases i with
    |succ i=>simp at ho
    |zero=>simp at ho;subst ho;refine⟨_,A,?_⟩;simp only[OR];refine⟨s,T,a,X,rfl,aI,U,by rw[aM];exact ec,ak,λ_=>C,yS⟩
   ·intro i j oi oj ri rj b l O _ _ _ _ _ _;cases i<;>cases j<;>simp at l O ⊢
  ·refine⟨?_,?_,?_,ag,?_,?_⟩
   ·rw[hW];rfl
   ·rw[hW];rfl
   ·rw[hW];rfl
   ·intro _;rw[hW];exact Nat.le_add_right _ _
   ·intro b hb av;refine z b hb λI=>av ?_;subst I;exact⟨0,_,_,rfl,rfl,A,rfl⟩
  ·intro i ob ri b ho hl R hb;refine .inr ?_;cases i with
   |succ i=>simp at ho
   |zero=>rw[A]at R;cases R;exact⟨0,_,_,rfl,rfl,A,hb⟩
def Tq(tt:TypeId->Option TI)(gu:Nat)(w:World):Prop:=(∀b,vM tt=some b->b≠gu/\∃m:Int,w.cell? ⟨b,0,none⟩=some (.int .i64 m))/\
 ∀g,g∈vL tt->g.1≠gu/\pc w ⟨g.1,0,some 1⟩=some (.int .i64 g.2.2.length)/\∀i z,g.2.2[i]? =some z->w.cell? ⟨g.1,i,none⟩=some (.int g.2.1 z)
def Tq.of{tt:TypeId->Option TI}{Pp:fQ}(h:N6 tt Pp)(a:∀ad v,Pp ad v->pc w ad=some v)(h4:∀ad v,Pp ad v->ad.block≠gu):Tq tt gu w:=⟨λb hb=>by obtain⟨m,d⟩:=h.1 b hb;exact⟨h4 _ _ d,m,by rw[<- px];exact a _ _ d⟩,λg c=>⟨h4 _ _ (h.2 g c).1,a _ _ (h.2 g c).1,λi z hz=>by rw[<- px];exact a _ _ ((h.2 g c).2 i z hz)⟩⟩
def Io(enc:α->List Value)(cf:α->α->Int)(b:List D->List D->Bool)(g:List PV)(ev:List Value)(o:∀E Pp vs,eM tt E Pp vs g->vs=ev)
 (hk:∀x,(enc x).length=(bN tt e).length)
 (u:∀(gu off cap:Nat)(d:Array α)(w:World),HoldsK enc (bN tt e).length w gu off d->gu<w.heap.size->d.size<4611686018427387904->(Tq tt gu w)->
   Calls P f ⟨.slice (some ⟨gu,off,none⟩) d.size cap::ev⟩ w λe' w'=>e'= .returned (.tuple #[])/\∃d' n os,PermIn 0 d.size d d'/\SortedIn (ltOf cf) 0 d.size d'/\w'=sortWorldK enc (bN tt e).length w gu off n d' os)
 (v:∀(p:Option Addr)(cap:Nat)(w:World),Calls P f ⟨.slice p 0 cap::ev⟩ w λe' w'=>e'= .returned (.tuple #[])/\w'=w)
 (s:∀args w,(callFunc f args).run P w= .ok (.enter f args) w)
 (rows:List (List D)) (z:rows.length<4611686018427387904)
 (l:∀Pp us row,row∈rows->AG tt Pp e us row->∃x:α,enc x=us)
 (dA:∀Pp x y r q,AG tt Pp e (enc x) r->AG tt Pp e (enc y) q->ltOf cf x y=b r q)
 (h:∀a,a.Perm rows->(∀i j (B:i<a.length) (A:j<a.length),i<j->b a[j] a[i]=false)->K (.tup []) [.row e (.list a) true]):
 FC P tt f [.row e (.list rows) true] (.row e 0::g) K:=λE Pp w vals c t=>
 JG enc cf b g ev o hk (λgu off cap d h1 h2 h3 h4=>u gu off cap d w h1 h2 h3 (Tq.of c.gl c.pi h4)) v s rows z (l Pp) (dA Pp) h c t
end
variable {w:World}{gu k off m:Nat}{os:Array Obj}
def Hi(g:(default:pY).p){own:Nat->Prop}{w':World}(h:Fr own w w')(j:∀b,¬own b):∃q c,w'=Go.Sort.grow (w.drewN q) c:=by
 refine⟨w'.drawn-w.drawn,w'.heap.extract w.heap.size w'.heap.size,?_⟩;have d:=h.drawn g
 have l:w'.heap=w.heap++w'.heap.extract w.heap.size w'.heap.size:=by
  apply Array.ext_getElem?;intro i;rcases bR i w.heap.size with a|a
  ·rw[gK a];exact h.block i a (j i)
  ·rw[Array.getElem?_append_right a];simp only[Array.getElem?_extract];have:=h.size;split
   ·congr 1;omega
   ·rw[cR yO]
 cases w' with
 |mk heap tape drawn os output=>
  simp only[Go.Sort.grow,World.drewN]
  congr 1
  ·exact h.tape
  ·simp at d ⊢;omega
  ·exact h.os
  ·exact h.output
def CF{α:Type}[Inhabited α]{enc:α->List Value}{b:Array α}{ad:Addr}{v:Value}(h:pc w ad=some v)(a:ad.block≠gu):pc (sortWorldK enc k w gu off m b os) ad=some v:=by rw[<- h];have hb:=yu h;refine ia ?_;simp only[sortWorldK,putRowK,putRow,grow,mapBlock,Sort.ahead];rw[gK (by simp;exact hb),jn,if_neg (dZ a)]
def Rb(tt:TypeId->Option TI)(w:World):fQ:=λad v=>(vM tt=some ad.block\/∃g,g∈vL tt/\g.1=ad.block)/\pc w ad=some v
def MY{tt:TypeId->Option TI}{α:Type}[Inhabited α]{enc:α->List Value}{b:Array α}(a:Tq tt gu w):
 ∀ad v,Rb tt w ad v->pc (sortWorldK enc k w gu off m b os) ad=some v:=λad v ⟨h2,h3⟩=>CF h3 (by
  rcases h2 with h2|⟨g,h2,e⟩
  ·exact(a.1 _ h2).1
  ·rw[<- e];exact(a.2 g h2).1)
def MZ{tt:TypeId->Option TI}(a:Tq tt gu w):N6 tt (Rb tt w):=⟨λb hb=>(a.1 b hb).2.imp λ_ c=>⟨.inl hb,gm c⟩,λg h=>⟨⟨.inr ⟨g,h,rfl⟩,(a.2 g h).2.1⟩,λi z hz=>⟨.inr ⟨g,h,rfl⟩,gm ((a.2 g h).2.2 i z hz)⟩⟩⟩
def Kv(o:(default:pY).p){P:Program}{tt:TypeId->Option TI}{f:FuncId}{fn:Func}{c:Code}{args:List PV}{r:Int}(hf:Has P f fn c){Pp:fQ}(g:FC P tt f [] args λv _=>v= .int .i64 r){vals:List Value}(j:∀ad v,Pp ad v->pc w ad=some v)(n:N6 tt Pp)(l:eM tt [] Pp vals args):
 Calls P f ⟨vals⟩ w λe w'=>e= .returned (.int .i64 r)/\∃q i,w'=Go.Sort.grow (w.drewN q) i:=by
 rcases g [] Pp w vals (WR.nil j n) l with⟨_,h⟩|⟨v,w',h,_⟩
 ·refine h.mono ?_;rintro e w' ⟨v,E',Pp',objs',pv,rfl,_,_,_,d,rfl,a,_⟩;cases d;exact⟨rfl,Hi o a (λb h=>nU h)⟩
 ·rw[oZ hf.f hf.b hf.name]at h;cases h
end
section
variable [Inhabited pY]
open Go Go.Proofs Go.Shelf Go.RowKit
section
variable {P:Program} (w:World)
def As{e:TypeId}(hc:P.cellsOf e=1)(a o n:Nat)(c:o+n<=a):liesAt P P.depth e a o e n=true:=by have b:P.depth=(2*(P.types.size+Made.depth)+1)+1:=rfl;rw[b];simp only[liesAt,fS];left;rw[b];simp[rowAt,hc,c,sameLayout,Nat.mod_one]
def p9(m it ty e:TypeId)(t:P.underlying m=some (.pointer e))(hc:P.cellsOf e=1)(g o cells:Nat)(r:w.shape? g=some (e,cells))(l:List UInt8)(h0:l≠[])(v:o+l.length<=cells)(u:l.length<=9223372036854775807)
 (b:∀j x,l[j]? =some x->w.cell? ((⟨g,o,none⟩:Addr).add j)=some (.int .u8 x.toNat)):
 (Builtin.unsafeString_ #[m,it] ty #[.pointer (some ⟨g,o,none⟩),.int .i64 l.length]).run P w= .ok (.string ⟨l.toArray⟩) (w.freeze ⟨g,o,none⟩ l.length):=by
 have hl:l.length≠0:=yU h0;have q:=Lib.run_loadBytes (P:=P) w l ⟨g,o,none⟩ .empty b;have a:=As (P:=P) hc (cells/P.cellsOf e) o l.length (by rw[hc];simpa using v);have k:¬(9223372036854775807:Int)<(l.length:Int):=yO
 have c:Builtin.unsafeString_ #[m,it] ty #[.pointer (some ⟨g,o,none⟩),.int .i64 l.length]=
  (do
    let n <-asInt (.int .i64 l.length)
    if n<0 then runtimePanic (.error "unsafe.String: len out of range")
    if n>IntKind.i64.max then unsupported (.unsafePointer "String: a length above the largest int")
    if n=0 then pure (.string .empty)
    else if <-variablesAt ⟨g,o,none⟩ (<- elemOf m) n.toNat then do
     let s <-loadBytes ⟨g,o,none⟩ .empty n.toNat
     freeze ⟨g,o,none⟩ n.toNat
     pure (.string s)
    else unsupported (.unsafePointer "String: not so many bytes at ptr")):=rfl
 rw[c];have i:IntKind.i64.max=9223372036854775807:=rfl;have h:¬(l.length:Int)<0:=yO;simp[asInt,asIntOf,i,k,h,hl,variablesAt,r,elemOf,run_underlying t,a,q]
end
section
variable {P:Program}{ρ:Ren}
structure Qv (g:Nat) (w w':World):Prop where
 os:w'.os=w.os
 tape:w'.tape=w.tape
 output:w'.output=w.output
 size:w.heap.size<=w'.heap.size
 drawn:w.drawn<=w'.drawn
 block:∀k,k≠g->w'.heap[k]? =w.heap[k]?
def Ew(w:World)(g o n:Nat):Qv g w (w.drew.freeze ⟨g,o,none⟩ n):=by
 have a:Qv g w w.drew:=⟨rfl,rfl,rfl,bX _,uM _,λk hk=>rfl⟩;generalize w.drew=w' at a;unfold World.freeze;split
 ·exact a
 ·exact⟨a.os,a.tape,a.output,yU a.size,a.drawn,λk hk=>by simp only[jn];rw[if_neg (λe=>hk e.symm)];exact a.block k hk⟩
def HU(L:Lays.n169 P ρ)(X:Builder.Extra P ρ)(b g o cap:Nat)(p:Value)(cur:Array Value)(l:List UInt8)(w:World)(h0:l≠[])(i:cap≠0)(n:l.length<=9223372036854775807)
 (k:w.heap[b]? =some (.cells #[p,.slice (some ⟨g,o,none⟩) l.length cap] (ρ.t 72) (0,0))) (m:w.heap[g]? =some (.cells cur (ρ.t 5) (0,0))) (ec:o+l.length<=cur.size)
 (a:∀(j:Nat) x,l[j]? =some x->cur[o+j]? =some (.int .u8 x.toNat)):
 Calls P (ρ.f 169) #[.pointer (some ⟨b,0,none⟩)] w λe w'=>e= .returned (.string ⟨l.toArray⟩)/\Qv g w w':=by
 have c1:w.drew.cell? ⟨b,1,none⟩=some (.slice (some ⟨g,o,none⟩) l.length cap):=by have:w.drew.heap[b]? =some (.cells #[p,.slice (some ⟨g,o,none⟩) l.length cap] (ρ.t 72) (0,0)):=k;rw[Lib.cell_of_heap this];rfl
 have A:(Builtin.unsafeSliceData_ #[(ρ.t 37)] (ρ.t 127) #[.slice (some ⟨g,o,none⟩) l.length cap]).run P w.drew= .ok (.pointer (some ⟨g,o,none⟩)) w.drew:=Lib.run_unsafeSliceData_row _ _ _ _ _ _ i;have v:(Builtin.unsafeString_ #[(ρ.t 127),(ρ.t 3)] (ρ.t 9) #[.pointer (some ⟨g,o,none⟩),.int .i64 l.length]).run P w.drew= .ok (.string ⟨l.toArray⟩) (w.drew.freeze ⟨g,o,none⟩ l.length):=by refine p9 w.drew (ρ.t 127) (ρ.t 3) (ρ.t 9) (ρ.t 5) L.t127 X.cellsByte g o cur.size (by have c:w.drew.heap[g]? =some (.cells cur (ρ.t 5) (0,0)):=m;simp[World.shape?,c]) l h0 ec n ?_;intro j x J;have h1:=a j x J;have c:w.drew.heap[g]? =some (.cells cur (ρ.t 5) (0,0)):=m;rw[Addr.add_lit];simp[World.cell?,c,h1]
 have h:=Ew w g o l.length;clear m ec a h0 k;have mixed:=L.mixed;have Q:=L.t72;have S:=L.a72;have z:=L.z72;have y:=L.v72;have E:=run_underlying L.t72;have N:=L.t70;have R:=L.a70;have I:=L.z70;have B:=L.v70;have C:=run_underlying L.t70;have G:=L.t37;have M:=L.a37;have O:=L.z37;have F:=L.v37;have H:=run_underlying L.t37;have u:=L.t127;have r:=L.a127;have q:=L.z127;have s:=L.v127;have t:=run_underlying L.t127;have U:=L.t3;have a3:=L.a3;have z3:=L.z3;have V:=L.v3;have u3:=run_underlying L.t3;have Z:=L.t9;have a9:=L.a9;have z9:=L.z9;have Y:=L.v9;have u9:=run_underlying L.t9;have t5:=X.t5;have a5:=X.a5;have W:=X.z5;have v5:=X.v5;have u5:=run_underlying X.t5
 go_enter L.f169,Body.n169_ntmps ρ
 go_wp2
 go_region_o
 all_goals (go_wp2;go_ret;exact⟨rfl,h⟩)
end
def dR(s:List UInt8):List (List D):=s.map λc=>[.int (c.toNat:Int)]
def Gw{tt:TypeId->Option TI}{Pp:fQ}{e:TypeId}(a:bN tt e=[.int .u8]){vs:List Value}{o:Nat}{s:List UInt8}(h:wR tt Pp e vs o (dR s)):∀(j:Nat) c,s[j]? =some c->vs[o+j]? =some (.int .u8 c.toNat):=by intro j c hc;obtain⟨_,h2⟩:=h j [.int (c.toNat:Int)] (by simp[dR,hc]);rw[a]at h2;obtain⟨v,b,hr⟩:=h2 0 (.int (c.toNat:Int)) (.int .u8) rfl rfl;cases hr;simpa using b
section
variable {P:Program}{tt:TypeId->Option TI}{f:FuncId}{T e:TypeId}
variable {d:D}{p:PV}{K:PV->List Ob->Prop}
def KL(hu:∀t ti,tt t=some ti->ti.P9=true->t=T)(G:bN tt e=[.int .u8])
 (Z:∀args w,(callFunc f args).run P w= .ok (.enter f args) w)
 (hS:∀(b g o cap:Nat)(p:Value)(cur:Array Value)(l:List UInt8)(w:World),l≠[]->cap≠0->l.length<=9223372036854775807->
   w.heap[b]? =some (.cells #[p,.slice (some ⟨g,o,none⟩) l.length cap] T (0,0))->w.heap[g]? =some (.cells cur e (0,0))->o+l.length<=cur.size->
   (∀(j:Nat) x,l[j]? =some x->cur[o+j]? =some (.int .u8 x.toNat))->
   Calls P f #[.pointer (some ⟨b,0,none⟩)] w λe w'=>e= .returned (.string ⟨l.toArray⟩)/\Qv g w w')
 {s:List UInt8} (h0:s≠[]) (hl:s.length<=4294967296) (I:d= .list (dR s)) (hp:pt p=true) (h:K (.str s) [.dead,.dead]):
 FC P tt f [.box [p,.row e 1],.row e d true] [.box 0 0] K:=by
 subst I;intro E Pp w vals A hv;cases hv with
 |cons v _ af _ N J=>
 cases J;cases N with
 |box _ _ _ gu M m=>
 obtain rfl:=m.get rfl;obtain⟨X,F,C⟩:=A.ob 0 _ rfl rfl;rw[M]at F;cases F;obtain⟨V,T1,hb,O,Q,H⟩:=C;obtain⟨ti,h1,h2⟩:=H hp;obtain rfl:=hu _ _ h1 h2;cases O with
 |cons Y _ us _ ab m=>
 cases m with
 |cons u1 _ U _ m L=>
 cases L;obtain⟨ae,q,n⟩:=A.ob 1 _ rfl rfl;cases m with
 |row0 _ _ hr=>rw[hr]at q;cases q;simp only[OR,D.list.injEq]at n;exact absurd (by simpa[dR]using n) h0
 |row _ _ g o len cap hr=>
  rw[hr]at q;cases q;obtain⟨vs,_,rows,W,I,z,S,fW,dN,u,ai⟩:=n;cases I;have r:s.length=len:=by rw[<- z,dR,bA]
  subst r;have R:0<s.length:=gz.2 h0;rw[G]at fW;simp only[dW,p5]at fW;have u:=u rfl;have y:own E [.box [p,.row e 1],.row e (.list (dR s)) true] g:=⟨1,_,_,rfl,rfl,hr,rfl⟩;refine .inl ⟨Z _ _,(hS gu g o cap Y ⟨vs⟩ s w h0 yO yO hb W (by show o+s.length<=vs.length;omega) (λj x hx=>by simpa using Gw G dN j x hx)).mono ?_⟩;rintro e' w' ⟨rfl,hO⟩;have hV:∀ad v,Pp ad v->pc w' ad=some v:=λad v B=>by rw[ia (hO.block _ (u ad v B))];exact A.pi ad v B
  have a:∀(i:Nat)(ob:Ob),([.dead,.dead]:List Ob)[i]? =some ob->ob.live=true->False:=λi ob c hl=>by
   match i,c with
   |0,c=>simp at c;subst c;cases hl
   |1,c=>simp at c;subst c;cases hl
   |i+2,c=>simp at c
  refine⟨_,E,Pp,[.dead,.dead],.str s,rfl,.refl _,λ_ _ h=>h,⟨by have:=A.len;simpa using this,hV,λi ob c hl=>(a i ob c hl).elim,λi j oi oj ri rj b c hj hl _ _ _ _ _=>(a i oi c hl).elim,A.gl⟩,?_,h,⟨hO.os,hO.tape,hO.output,hO.size,λ_=>hO.drawn,λk _ hk=>hO.block k (λe=>hk (e▸y))⟩,λ_ _ h=>.inl h,λi ob ri b c hl=>(a i ob c hl).elim⟩;exact .str ⟨s.toArray⟩
def Dv(hu:∀t ti,tt t=some ti->ti.P9=true->t=T)
 (S:∀args w,(callFunc f args).run P w= .ok (.enter f args) w)
 (u:∀(b:Nat)(w:World),w.cell? ⟨b,0,none⟩=some (.pointer (some ⟨b,0,none⟩))->Calls P f #[.pointer (some ⟨b,0,none⟩)] w λe w'=>e= .returned (.tuple #[])/\w'=w)
 (q:∀(b:Nat)(w:World),w.cell? ⟨b,0,none⟩=some (.pointer none)->w.shape? b=some (T,2)->w.frozen? ⟨b,0,none⟩=false->
   Calls P f #[.pointer (some ⟨b,0,none⟩)] w λe w'=>e= .returned (.tuple #[])/\w'=w.setCell ⟨b,0,none⟩ (.pointer (some ⟨b,0,none⟩)))
 (U:p= .nilp\/p= .box 0 0) (h:K (.tup []) [.box [.box 0 0,.row e 1],.row e d true]):
 FC P tt f [.box [p,.row e 1],.row e d true] [.box 0 0] K:=by
 intro E Pp w vals H I;cases I with
 |cons v _ ac _ M L=>
 cases L;cases M with
 |box _ _ _ gu a c=>
 obtain rfl:=c.get rfl;obtain⟨Z,C,A⟩:=H.ob 0 _ rfl rfl;rw[a]at C;cases C;obtain⟨X,R,hb,O,r,G⟩:=A;obtain⟨ti,h1,h2⟩:=G (by rcases U with rfl|rfl<;>rfl);obtain rfl:=hu _ _ h1 h2;cases O with
 |cons u0 _ us _ B c=>
 cases c with
 |cons u1 _ W _ c s=>
 cases s;have z:w.cell? ⟨gu,0,none⟩=some u0:=by simp[World.cell?,hb]
 rcases U with rfl|rfl
 ·cases B;refine .inl ⟨S _ _,(q gu w z (by simp[World.shape?,hb]) (by simp[World.frozen?,hb])).mono ?_⟩;rintro e' w' ⟨rfl,rfl⟩;have Q:(w.setCell ⟨gu,0,none⟩ (.pointer (some ⟨gu,0,none⟩))).heap[gu]? =some (.cells ⟨[.pointer (some ⟨gu,0,none⟩),u1]⟩ R (0,0)):=by simp[World.setCell,jn,hb]
  have g:∀k,k≠gu->(w.setCell ⟨gu,0,none⟩ (.pointer (some ⟨gu,0,none⟩))).heap[k]? =w.heap[k]? :=λk hk=>by simp only[World.setCell,jn];rw[if_neg (λe=>hk e.symm)]
  have y:own E [.box [.nilp,.row e 1],.row e d true] gu:=⟨0,_,_,rfl,rfl,a,rfl⟩
  have Y:WR tt E Pp [.box [.box 0 0,.row e 1],.row e d true] (w.setCell ⟨gu,0,none⟩ (.pointer (some ⟨gu,0,none⟩))):=by
   refine WR.An H (i:=0) (o:=.box [.nilp,.row e 1]) (o':=.box [.box 0 0,.row e 1]) (ri:=.box gu) (ri':=.box gu) rfl rfl a rfl (λ_ _=>rfl) a rfl ?_ rfl ?_ ?_ (λ_ _ h=>h) (λ_ _ h=>.inl h) (λb hb=>.inl hb) ?_
   ·intro j N hj l hl
    match j,l with
    |1,l=>exact⟨N,l,hl,λ_ _ h=>h⟩
    |0,_=>exact absurd rfl hj
    |j+2,l=>simp at l
   ·intro _;exact⟨_,R,Q,.cons _ _ _ _ (.box _ _ _ _ a (.mk rfl)) (.cons _ _ _ _ c .nil),r,λ_=>⟨ti,h1,h2⟩⟩
   ·intro b _ J;exact g b (λe=>J (by rw[e];rfl))
   ·intro ad v I;rw[ia (g _ (r ad v I))];exact H.pi ad v I
  refine⟨_,E,Pp,_,.tup [],rfl,.refl _,λ_ _ h=>h,Y,.tup [] [] .nil,h,⟨rfl,rfl,rfl,by simp[World.setCell],λ_=>bX _,λk _ hk=>g k (λe=>hk (e▸y))⟩,λ_ _ h=>.inl h,?_⟩;intro i o ri b x hl n m
  match i,x with
  |0,x=>exact .inr ⟨0,_,ri,rfl,rfl,n,m⟩
  |1,x=>exact .inr ⟨1,_,ri,rfl,rfl,n,m⟩
  |i+2,x=>simp at x
 ·cases B with
  |box _ _ _ V F s=>
  obtain rfl:=s.get rfl;rw[a]at F;cases F;refine .inl ⟨S _ _,(u gu w z).mono ?_⟩;rintro e' w' ⟨rfl,rfl⟩;refine⟨_,E,Pp,[.box [.box 0 0,.row e 1],.row e d true],.tup [],rfl,.refl _,λ_ _ h=>h,H,.tup [] [] .nil,h,Fr.refl _ _,λ_ _ h=>.inl h,?_⟩;intro i o ri b x hl n m;exact .inr ⟨i,o,ri,x,hl,n,m⟩
end
end
end Go.VC
namespace Go.VC
open Go
section
variable [Inhabited pY]
noncomputable section
class Sd (p:Prop) where
 b:Bool
 h:b=true->p
class Ri (C:jm) where
 c:∀(w:Qj)(o:List Ob)(a:List PV)(K:PV->List Ob->Prop),(∀v o',Sd (K v o'))->Sd (C w o a K)
mutual
def BH:D->D->Bool
 | .int a,.int b=>decide (a=b)
 | .bool a,.bool b=>match a,b with|true,true=>true|false,false=>true|_,_=>false
 | .str a,.str b=>decide (a=b)
 | .list a,.list b=>BG a b
 | .nil,.nil=>true
 | .ptr a,.ptr b=>Hx a b
 |_,_=>false
def Hx:List D->List D->Bool
 |[],[]=>true
 |a::x,b::y=>match BH a b with|true=>Hx x y|false=>false
 |_,_=>false
def BG:List (List D)->List (List D)->Bool
 |[],[]=>true
 |a::x,b::y=>match Hx a b with|true=>BG x y|false=>false
 |_,_=>false
end
mutual
def kR:∀{a b:D},BH a b=true->a=b
 | .int a,b,h=>by cases b<;>simp[BH]at h;rw[h]
 | .bool a,b,h=>by cases b<;>simp[BH]at h;rename_i c;cases a<;>cases c<;>simp_all
 | .str a,b,h=>by cases b<;>simp[BH]at h;rw[h]
 | .list a,b,h=>by cases b<;>simp[BH]at h;rw[Fs h]
 | .nil,b,h=>by cases b<;>simp[BH]at h;rfl
 | .ptr a,b,h=>by cases b<;>simp[BH]at h;rw[Dc h]
def Dc:∀{a b:List D},Hx a b=true->a=b
 |[],b,h=>by cases b<;>simp[Hx]at h;rfl
 |a::x,b,h=>by
  cases b with
  |nil=>simp[Hx]at h
  |cons b y=>
   rw[Hx]at h;split at h
   ·rename_i h1;rw[kR h1,Dc h]
   ·cases h
def Fs:∀{a b:List (List D)},BG a b=true->a=b
 |[],b,h=>by cases b<;>simp[BG]at h;rfl
 |a::x,b,h=>by
  cases b with
  |nil=>simp[BG]at h
  |cons b y=>
   rw[BG]at h;split at h
   ·rename_i h1;rw[Dc h1,Fs h]
   ·cases h
end
mutual
def tk:PV->PV->Bool
 | .undef,.undef=>true
 | .int k a,.int k' b=>Hf k k'&&decide (a=b)
 | .bl a,.bl b=>KB a b
 | .bool a,.bool b=>KB a b
 | .str a,.str b=>decide (a=b)
 | .lst e d,.lst e' d'=>nb e e'&&BH d d'
 | .om e d,.om e' d'=>nb e e'&&BH d d'
 | .agg a,.agg b=>zG a b
 | .tup a,.tup b=>zG a b
 | .box b o,.box b' o'=>nb b b'&&nb o o'
 | .row e r,.row e' r'=>nb e e'&&nb r r'
 | .fM e r i o,.fM e' r' i' o'=>nb e e'&&nb r r'&&decide (i=i')&&nb o o'
 | .jv e d i o,.jv e' d' i' o'=>nb e e'&&BH d d'&&decide (i=i')&&nb o o'
 | .du a o,.du b o'=>zG a b&&nb o o'
 | .dptr t d,.dptr t' d'=>nb t t'&&BH d d'
 | .rP t d o,.rP t' d' o'=>nb t t'&&BH d d'&&nb o o'
 | .cu f a,.cu f' b=>nb f f'&&zG a b
 | .nilp,.nilp=>true
 | .nilm,.nilm=>true
 | .nilf,.nilf=>true
 | .lj,.lj=>true
 | .mp m,.mp m'=>nb m m'
 | .dmp e d,.dmp e' d'=>nb e e'&&BH d d'
 | .it i,.it j=>nb i j
 | .kF i,.kF j=>nb i j
 |_,_=>false
def zG:List PV->List PV->Bool
 |[],[]=>true
 |a::x,b::y=>match tk a b with|true=>zG x y|false=>false
 |_,_=>false
end
mutual
def C9:∀{a b:PV},tk a b=true->a=b
 | .agg a,b,h=>by cases b<;>simp[tk]at h;rw[pE h]
 | .tup a,b,h=>by cases b<;>simp[tk]at h;rw[pE h]
 | .du a o,b,h=>by cases b<;>simp[tk]at h;rw[pE h.1,h.2]
 | .cu f a,b,h=>by cases b<;>simp[tk]at h;rw[h.1,pE h.2]
 | .lst e d,b,h=>by cases b<;>simp[tk]at h;rw[h.1,kR h.2]
 | .om e d,b,h=>by cases b<;>simp[tk]at h;rw[h.1,kR h.2]
 | .dptr e d,b,h=>by cases b<;>simp[tk]at h;rw[h.1,kR h.2]
 | .dmp e d,b,h=>by cases b<;>simp[tk]at h;rw[h.1,kR h.2]
 | .rP e d o,b,h=>by cases b<;>simp[tk]at h;rw[h.1.1,kR h.1.2,h.2]
 | .jv e d i o,b,h=>by cases b<;>simp[tk]at h;rw[h.1.1.1,kR h.1.1.2,h.1.2,h.2]
 | .int k a,b,h=>by cases b<;>simp[tk,Hf]at h;rw[h.1,h.2]
 | .bl a,b,h=>by cases b<;>simp[tk,zV]at h;rw[h]
 | .bool a,b,h=>by cases b<;>simp[tk,zV]at h;rw[h]
 | .str a,b,h=>by cases b<;>simp[tk]at h;rw[h]
 | .box a o,b,h=>by cases b<;>simp[tk]at h;rw[h.1,h.2]
 | .row a o,b,h=>by cases b<;>simp[tk]at h;rw[h.1,h.2]
 | .fM e r i o,b,h=>by cases b<;>simp[tk]at h;rw[h.1.1.1,h.1.1.2,h.1.2,h.2]
 | .mp m,b,h=>by cases b<;>simp[tk]at h;rw[h]
 | .it m,b,h=>by cases b<;>simp[tk]at h;rw[h]
 | .kF m,b,h=>by cases b<;>simp[tk]at h;rw[h]
 | .undef,b,h=>by cases b<;>simp[tk]at h;rfl
 | .nilp,b,h=>by cases b<;>simp[tk]at h;rfl
 | .nilm,b,h=>by cases b<;>simp[tk]at h;rfl
 | .nilf,b,h=>by cases b<;>simp[tk]at h;rfl
 | .lj,b,h=>by cases b<;>simp[tk]at h;rfl
def pE:∀{a b:List PV},zG a b=true->a=b
 |[],b,h=>by cases b<;>simp[zG]at h;rfl
 |a::x,b,h=>by
  cases b with
  |nil=>simp[zG]at h
  |cons b y=>
   rw[zG]at h;split at h
   ·rename_i h1;rw[C9 h1,pE h]
   ·cases h
end
def Z7:Ob->Ob->Bool
 | .box a,.box b=>zG a b
 | .row e d w,.row e' d' w'=>nb e e'&&BH d d'&&KB w w'
 | .map k e d,.map k' e' d'=>decide (k=k')&&nb e e'&&BH d d'
 | .iter m d,.iter m' d'=>nb m m'&&BH d d'
 | .diter e d s,.diter e' d' s'=>nb e e'&&BH d d'&&BH s s'
 | .dead,.dead=>true
 |_,_=>false
def SE{a b:Ob}(h:Z7 a b=true):a=b:=by
 cases a<;>cases b<;>simp[Z7,zV]at h
 ·rw[pE h]
 ·rw[h.1.1,kR h.1.2,h.2]
 ·rw[h.1.1,h.1.2,kR h.2]
 ·rw[h.1,kR h.2]
 ·rw[h.1.1,kR h.1.2,kR h.2]
 ·rfl
def Da:List Ob->List Ob->Bool
 |[],[]=>true
 |a::x,b::y=>match Z7 a b with|true=>Da x y|false=>false
 |_,_=>false
def uv:∀{a b:List Ob},Da a b=true->a=b
 |[],b,h=>by cases b<;>simp[Da]at h;rfl
 |a::x,b,h=>by
  cases b with
  |nil=>simp[Da]at h
  |cons b y=>
   rw[Da]at h;split at h
   ·rename_i h1;rw[SE h1,uv h]
   ·cases h
def VL(s1 s2:cS):cS->Bool
 |[]=>true
 |(t,_)::l=>match tk (look s1 t) (look s2 t)with|true=>VL s1 s2 l|false=>false
def Hw{s1 s2:cS}:∀{l:cS},VL s1 s2 l=true->∀t p,(t,p)∈l->look s1 t=look s2 t
 |[],_,t,p,h=>yE h
 |(u,q)::l,h,t,p,hm=>by
  rw[VL]at h;split at h
  ·rename_i h1;rcases bx.1 hm with e|hm
   ·cases e;exact C9 h1
   ·exact Hw h t p hm
  ·cases h
def vD:∀{s:cS}{t:Nat},(∀p,(t,p)∉s)->look s t= .undef
 |[],_,_=>rfl
 |(k,v)::s,t,h=>by rw[jt,if_neg (λe=>h v (by simp[e]))];exact vD λp hp=>h p (by simp[hp])
def PX(s1 s2:St):Bool:=match Da s1.o s2.o with|true=>VL s1.s s2.s s1.s&&VL s1.s s2.s s2.s|false=>false
def I6{s1 s2:St}(h:PX s1 s2=true):(∀t,look s1.s t=look s2.s t)/\s1.o=s2.o:=by
 unfold PX at h;split at h
 ·rename_i ho;rw[bn]at h;refine⟨λt=>?_,uv ho⟩;by_cases h1:∃p,(t,p)∈s1.s
  ·exact Hw h.1 t _ h1.choose_spec
  by_cases h2:∃p,(t,p)∈s2.s
  ·exact Hw h.2 t _ h2.choose_spec
  rw[vD (λp hp=>h1 ⟨p,hp⟩),vD (λp hp=>h2 ⟨p,hp⟩)]
 ·cases h
def RR(i j n:Nat):List Nat:=(dF n).map λk=>match nb k i,nb k j with|true,_=>j|false,true=>i|false,false=>k
def Ub(f:Nat->Nat->Bool)(lo n:Nat):Bool:=qg (λi=>qg (λj=>match iD (lo+i+1) (lo+j)with|true=>f (lo+i) (lo+j)|false=>false) (dF (n-lo))) (dF (n-lo))
def GF(n0:Nat)(s1 s2:St):Bool:=match PX s1 s2 with
 |true=>true
 |false=>Ub (λi j=>match jD (RR i j (bY s2.o))&&xF n0 0 (RR i j (bY s2.o))with|true=>PX s1 (vu (RR i j (bY s2.o)) s2)|false=>false) n0 (bY s2.o)
def JP{n0:Nat}{s1 s2:St}(h:GF n0 s1 s2=true):vo n0 s1 s2:=by
 unfold GF at h;split at h
 ·rename_i h1;exact⟨s2,.inl rfl,I6 h1⟩
 ·unfold Ub at h;rw[uD]at h;obtain⟨i,_,h⟩:=eV.1 h;rw[uD]at h;obtain⟨j,_,h⟩:=eV.1 h;split at h
  ·dsimp only at h;split at h
   ·rename_i h2;exact⟨_,.inr ⟨_,h2,rfl⟩,I6 h⟩
   ·cases h
  ·cases h
namespace Sd
instance (priority:=low) R0 {C:jm} [h:Ri C] {w:Qj}{o:List Ob}{a:List PV}{K:PV->List Ob->Prop} [hK:∀v o',Sd (K v o')]:Sd (C w o a K):=h.c w o a K hK
instance:Sd False:=⟨false,λh=>yC h⟩
instance:Sd True:=⟨true,λ_=>trivial⟩
instance A1{p q:Prop}[x:Sd p][y:Sd q]:Sd (p/\q):=⟨x.b&&y.b,λh=>by rw[bn]at h;exact⟨x.h h.1,y.h h.2⟩⟩
instance {p q:Prop} [x:Sd p] [y:Sd q]:Sd (p\/q):=⟨x.b||y.b,λh=>by rw[fS]at h;exact h.imp x.h y.h⟩
instance {p:Prop} [x:Sd p]:Sd (True->p):=⟨x.b,λh _=>x.h h⟩
instance {c d:Bool}{p:Prop} [x:Sd p]:Sd (c=d->p):=⟨match decEq c d with|isTrue _=>x.b|isFalse _=>true,λh e=>by subst e;cases c<;>exact x.h h⟩
instance Um{c:Bool}{p q:Prop}[x:Sd p][y:Sd q]:Sd (bif c then p else q):=⟨match c with|true=>x.b|false=>y.b,λh=>by cases c;exact y.h h;exact x.h h⟩
instance {q:Bool->Prop} [x:∀b,Sd (q b)]:Sd (∀b,q b):=⟨(x true).b&&(x false).b,λh b=>by rw[bn]at h;cases b;exact(x false).h h.2;exact(x true).h h.1⟩
@[reducible] def dec(p:Prop)[Decidable p]:Sd p:=⟨decide p,of_decide_eq_true⟩
instance {k:IntKind}{n:Int}:Sd (Std.inr k n):=by unfold Std dS;exact dec _
instance (priority:=2000) {k:IntKind}{n:Int}{p q:Prop} [x:Sd p] [y:Sd q]:Sd ((Std.inr k n/\(True->p))\/(True->q)):=⟨match (inferInstance:Sd (Std.inr k n)).b with|true=>x.b|false=>y.b,λh=>by
 split at h
 ·rename_i e;exact .inl ⟨(inferInstance:Sd (Std.inr k n)).h e,λ_=>x.h h⟩
 ·exact .inr λ_=>y.h h⟩
instance {k n:Int}:Sd (Std.idx k n):=by unfold Std dS;exact dec _
instance {k n:Int}:Sd (Std.gr k n):=by unfold Std dS;exact dec _
instance {n:Int}:Sd (Std.XM n):=by unfold Std dS;exact dec _
instance {k n:Int}{p:Prop} [x:Sd p]:Sd (Std.same k n->p):=⟨x.b,λh _=>x.h h⟩
def fL{a b:Int}(h:Std.same a b):a=b:=by unfold Std dS at h;exact h
instance {c:Bool}{k n:Int}{p:Prop} [x:Sd p]:Sd ((c=true->Std.same k n)->p):=⟨match c&& !decide (k=n)with|true=>true|false=>x.b,λh g=>by
 split at h
 ·rename_i e;simp only[bn,ij,decide_eq_false_iff_not]at e;exact absurd (fL (g e.1)) e.2
 ·exact x.h h⟩
instance (a b:Bool):Sd (a=b):=dec _
instance {a b:Int}:Sd (Std.same a b):=by unfold Std dS;exact dec _
def D9(s:D)(j:Int):Bool:=(cg s).any λr=>match r with|[.int k]=>decide (k=j)|_=>false
def A0{s:D}{j:Int}:D9 s j=true↔[.int j]∈cg s:=by
 unfold D9;rw[eV];constructor
 ·rintro⟨r,hr,h⟩;split at h
  ·rw[<- of_decide_eq_true h];exact hr
  ·cases h
 ·intro h;exact⟨_,h,yS⟩
instance {d s:D}{p:Prop} [x:Sd p]:Sd (Std.n1 d s->p):=⟨match (dF (cg d).length).all λj=>D9 s j with|true=>x.b|false=>true,λh g=>by have g:∀j:Nat,j<(cg d).length->[.int (j:Int)]∈cg s:=g;have e:((dF (cg d).length).all λj=>D9 s j)=true:=dE.2 λj hj=>A0.2 (g j (k9.1 hj));rw[e]at h;exact x.h h⟩
instance {d s:D}{p:Int->Prop} [x:∀j,Sd (p j)]:Sd (∀j,Std.qp d s j->p j):=⟨(dF (cg d).length).all λi=>match D9 s i with|true=>true|false=>(x i).b,λh j hj=>by
 have hj:0<=j/\j<((cg d).length:Int)/\[.int j]∉cg s:=hj;obtain⟨k,rfl⟩:=Int.eq_ofNat_of_zero_le hj.1;have h:=dE.1 h k (k9.2 yO);split at h
 ·rename_i e;exact absurd (A0.1 e) hj.2.2
 ·exact(x k).h h⟩
section
variable {tt:TypeId->Option TI}{K:PV->Prop} [hK:∀v,Sd (K v)]
instance {op:BinOp}{e:Bool}:Sd (Kz Std op e K):=by delta Kz;split<;>infer_instance
instance {op:BinOp}{e:Bool}:Sd (HH op e K):=by delta HH;split<;>infer_instance
instance {o:Option TI}{op:BinOp}{b:Bool}:Sd (nZ Std o op b K):=by delta nZ;split<;>infer_instance
instance {op:BinOp}{k:IntKind}{a b:Int}:Sd (NB Std op k a b K):=by delta NB;split<;>infer_instance
instance {op:BinOp}{a b:List UInt8}:Sd (Nz Std op a b K):=by delta Nz;split<;>infer_instance
instance {s:cS}{o:Option Operand}{d:Int}{K:Int->Prop} [∀v,Sd (K v)]:Sd (tW s o d K):=by delta tW;(repeat' split)<;>infer_instance
section
variable {ty:TypeId}{s:cS}{ob:List Ob}
@[reducible] def L8 {x}:Sd (cH Std tt (.move x) ty s ob K):=by
 delta cH;try dsimp only
 (repeat' split)<;>first|infer_instance|exact⟨false,λh=>yC h⟩
@[reducible] def Ma {x}:Sd (cH Std tt (.assign x) ty s ob K):=by
 delta cH;try dsimp only
 (repeat' split)<;>first|infer_instance|exact⟨false,λh=>yC h⟩
@[reducible] def L7 {c a b}:Sd (cH Std tt (.pick c a b) ty s ob K):=by
 delta cH;try dsimp only
 (repeat' split)<;>first|infer_instance|exact⟨false,λh=>yC h⟩
@[reducible] def L9 {t x}:Sd (cH Std tt (.load t x) ty s ob K):=by
 delta cH;try dsimp only
 (repeat' split)<;>first|infer_instance|exact⟨false,λh=>yC h⟩
@[reducible] def yx {x}:Sd (cH Std tt (.nilCheck x) ty s ob K):=by
 delta cH;try dsimp only
 (repeat' split)<;>first|infer_instance|exact⟨false,λh=>yC h⟩
@[reducible] def IJ {op t x y z}:Sd (cH Std tt (.binOp op t x y z) ty s ob K):=by
 delta cH;try dsimp only
 (repeat' split)<;>first|infer_instance|exact⟨false,λh=>yC h⟩
@[reducible] def L6 {op t x}:Sd (cH Std tt (.unOp op t x) ty s ob K):=by
 delta cH;try dsimp only
 (repeat' split)<;>first|infer_instance|exact⟨false,λh=>yC h⟩
@[reducible] def Bf {a b x}:Sd (cH Std tt (.convert a b x) ty s ob K):=by
 delta cH;try dsimp only
 (repeat' split)<;>first|infer_instance|exact⟨false,λh=>yC h⟩
@[reducible] def wy {t x f}:Sd (cH Std tt (.fieldAddr t x f) ty s ob K):=by
 delta cH;try dsimp only
 (repeat' split)<;>first|infer_instance|exact⟨false,λh=>yC h⟩
@[reducible] def II {t x f}:Sd (cH Std tt (.field t x f) ty s ob K):=by
 delta cH;try dsimp only
 (repeat' split)<;>first|infer_instance|exact⟨false,λh=>yC h⟩
@[reducible] def wx {t x i}:Sd (cH Std tt (.indexAddr t x i) ty s ob K):=by
 delta cH;try dsimp only
 (repeat' split)<;>first|infer_instance|exact⟨false,λh=>yC h⟩
@[reducible] def IH {t x i}:Sd (cH Std tt (.index t x i) ty s ob K):=by
 delta cH;try dsimp only
 (repeat' split)<;>first|infer_instance|exact⟨false,λh=>yC h⟩
@[reducible] def Pf {t ps}:Sd (cH Std tt (.build t ps) ty s ob K):=by
 delta cH;try dsimp only
 (repeat' split)<;>first|infer_instance|exact⟨false,λh=>yC h⟩
@[reducible] def Be {x n}:Sd (cH Std tt (.extract x n) ty s ob K):=by
 delta cH;try dsimp only
 (repeat' split)<;>first|infer_instance|exact⟨false,λh=>yC h⟩
@[reducible] def Pe {t x lo hi mx}:Sd (cH Std tt (.slice t x lo hi mx) ty s ob K):=by
 delta cH;try dsimp only
 (repeat' split)<;>first|infer_instance|exact⟨false,λh=>yC h⟩
@[reducible] def yy {f a b}:Sd (cH Std tt (.makeFunc f a b) ty s ob K):=by
 delta cH;try dsimp only
 (repeat' split)<;>first|infer_instance|exact⟨false,λh=>yC h⟩
@[reducible] def CI {t n ps}:Sd (cH Std tt (.buildSlice t n ps) ty s ob K):=by
 delta cH;try dsimp only
 (repeat' split)<;>first|infer_instance|exact⟨false,λh=>yC h⟩
@[reducible] def R8 {i}:Sd (cH Std tt (.call i) ty s ob K):=by
 delta cH;try dsimp only
 (repeat' split)<;>first|infer_instance|exact⟨false,λh=>yC h⟩
end
instance RZ{op:Op}{ty:TypeId}{s:cS}{ob:List Ob}:Sd (cH Std tt op ty s ob K):=match op with
 | .move _=>L8
 | .assign _=>Ma
 | .pick _ _ _=>L7
 | .load _ _=>L9
 | .nilCheck _=>yx
 | .binOp _ _ _ _ _=>IJ
 | .unOp _ _ _=>L6
 | .convert _ _ _=>Bf
 | .fieldAddr _ _ _=>wy
 | .field _ _ _=>II
 | .indexAddr _ _ _=>wx
 | .index _ _ _=>IH
 | .build _ _=>Pf
 | .extract _ _=>Be
 | .slice _ _ _ _ _=>Pe
 | .makeFunc _ _ _=>yy
 | .buildSlice _ _ _=>CI
 | .call _=>R8
 |_=>⟨false,λh=>yC h⟩
end
section
variable {G:dH}{C:jm} [hC:Ri C]
section
variable {K:PV->St->Prop} [hK:∀v s,Sd (K v s)]
instance acQ{f:Qj}{args:List PV}{s:cS}{o1:List Ob}{F:List Nat}:Sd (qL C f args s o1 F K):=by delta qL;infer_instance
instance {f:Qj}{args:List PV}{s:cS}{o1:List Ob}:Sd (vG C f args s o1 K):=by delta vG;infer_instance
instance {f:FuncId}{args:List PV}{st:St}:Sd (EP G C f args st K):=by delta EP;split<;>infer_instance
instance {kp:Bool}{f:FuncId}{args:List PV}{st:St}:Sd (uB G C kp f args st K):=by
 delta uB
 split
 ·infer_instance
 split
 ·(repeat' split)<;>first|infer_instance|(refine @Um _ _ _ (R0 (hK:=λv o'=>?_)) inferInstance;(repeat' split)<;>first|infer_instance|exact⟨false,λh=>yC h⟩)|exact⟨false,λh=>yC h⟩
 ·have:∀v o',Sd (bif gF lr o' then(match plain 8 v with|true=>K v st|false=>(match eI f G.XW&&um G.tt v o' with|true=>K (JW (λi=>bY st.o+i) 8 v) ⟨st.s,gh st.o o'⟩|false=>K (JW (λi=>bY st.o+i) 8 v) ⟨nk (eT (ids st.o 8) args) st.o st.s,gh (fz (eT (ids st.o 8) args) 0 st.o) o'⟩))else False):=λv o'=>by
   have:Sd (match plain 8 v with|true=>K v st|false=>(match eI f G.XW&&um G.tt v o' with|true=>K (JW (λi=>bY st.o+i) 8 v) ⟨st.s,gh st.o o'⟩|false=>K (JW (λi=>bY st.o+i) 8 v) ⟨nk (eT (ids st.o 8) args) st.o st.s,gh (fz (eT (ids st.o 8) args) 0 st.o) o'⟩)):=by(repeat' split)<;>infer_instance
   infer_instance
  infer_instance
instance {i:Nat}{args:List PV}{st:St}:Sd (DJ C i args st K):=by
 delta DJ
 split
 ·delta DJ.Mt;infer_instance
 ·infer_instance
instance {ob:List Ob}{p:PV}{K:TypeId->D->Prop} [∀e d,Sd (K e d)]:Sd (LA ob p K):=by
 delta LA
 (repeat' split)<;>first|infer_instance|exact⟨false,λh=>yC h⟩
instance {t:TypeId}{m k x:Operand}{st:St}{K:St->Prop} [∀s,Sd (K s)]:Sd (rI Std G t m k x st K):=by
 delta rI
 (repeat' split)<;>first|infer_instance|exact⟨false,λh=>yC h⟩
instance {t:TypeId}{m k x:Operand}{st:St}{K:St->Prop} [∀s,Sd (K s)]:Sd (vC Std G t m k x st K):=by
 delta vC
 (repeat' split)<;>first|infer_instance|exact⟨false,λh=>yC h⟩
instance {t:TypeId}{m k:Operand}{st:St}{K:St->Prop} [∀s,Sd (K s)]:Sd (yZ Std G t m k st K):=by
 delta yZ
 (repeat' split)<;>first|infer_instance|exact⟨false,λh=>yC h⟩
instance {d kd:D}{k1 k2:D->Prop} [∀d,Sd (k1 d)] [∀d,Sd (k2 d)]:Sd (Pw Std d kd k1 k2):=by delta Pw;infer_instance
instance {kd:D}{k:D->Prop} [∀d,Sd (k d)]:Sd (Bu kd k):=by delta Bu;infer_instance
instance {e:TypeId}{x:PV}{d2:D}{st:St}{o:Oper}:Sd (BY Std G e x d2 st o K):=by
 delta BY
 (repeat' split)<;>first|infer_instance|exact⟨false,λh=>yC h⟩
section
variable {dst:Option Nat}{ty:TypeId}{pos:String}{FU:Array Edge}{gd:Option (Nat×Bool)}{st:St}
@[reducible] def O6 {t}:Sd (eB Std G C ⟨dst,.alloc t,ty,pos,FU,gd⟩ st K):=by
 delta eB
 try dsimp only
 (repeat' split)<;>first|infer_instance|exact⟨false,λh=>yC h⟩
@[reducible] def Un {t x}:Sd (eB Std G C ⟨dst,.box t x,ty,pos,FU,gd⟩ st K):=by
 delta eB
 try dsimp only
 (repeat' split)<;>first|infer_instance|exact⟨false,λh=>yC h⟩
@[reducible] def O1 {t x y}:Sd (eB Std G C ⟨dst,.store t x y,ty,pos,FU,gd⟩ st K):=by
 delta eB
 try dsimp only
 (repeat' split)<;>first|infer_instance|exact⟨false,λh=>yC h⟩
@[reducible] def Cz {t n ps}:Sd (eB Std G C ⟨dst,.buildSlice t n ps,ty,pos,FU,gd⟩ st K):=by
 delta eB
 try dsimp only
 (repeat' split)<;>first|infer_instance|exact⟨false,λh=>yC h⟩
@[reducible] def LV {x}:Sd (eB Std G C ⟨dst,.assign x,ty,pos,FU,gd⟩ st K):=by
 delta eB
 try dsimp only
 (repeat' split)<;>first|infer_instance|exact⟨false,λh=>yC h⟩
@[reducible] def R2 {x}:Sd (eB Std G C ⟨dst,.move x,ty,pos,FU,gd⟩ st K):=by
 delta eB
 try dsimp only
 (repeat' split)<;>first|infer_instance|exact L8|exact⟨false,λh=>yC h⟩
@[reducible] def O5 {t ps}:Sd (eB Std G C ⟨dst,.build t ps,ty,pos,FU,gd⟩ st K):=by
 delta eB
 try dsimp only
 (repeat' split)<;>first|infer_instance|exact⟨false,λh=>yC h⟩
@[reducible] def O2 {t x lo hi mx}:Sd (eB Std G C ⟨dst,.slice t x lo hi mx,ty,pos,FU,gd⟩ st K):=by
 delta eB
 try dsimp only
 (repeat' split)<;>first|infer_instance|exact⟨false,λh=>yC h⟩
@[reducible] def JQ {t x}:Sd (eB Std G C ⟨dst,.makeMap t x,ty,pos,FU,gd⟩ st K):=by
 delta eB
 try dsimp only
 (repeat' split)<;>first|infer_instance|exact⟨false,λh=>yC h⟩
@[reducible] def LQ {t m k ok}:Sd (eB Std G C ⟨dst,.lookup t m k ok,ty,pos,FU,gd⟩ st K):=by
 delta eB
 try dsimp only
 (repeat' split)<;>first|infer_instance|exact⟨false,λh=>yC h⟩
@[reducible] def Ec {t m k x}:Sd (eB Std G C ⟨dst,.mapUpdate t m k x,ty,pos,FU,gd⟩ st K):=by
 delta eB
 try dsimp only
 (repeat' split)<;>first|infer_instance|exact⟨false,λh=>yC h⟩
@[reducible] def LU {t m k x}:Sd (eB Std G C ⟨dst,.insert t m k x,ty,pos,FU,gd⟩ st K):=by
 delta eB
 try dsimp only
 (repeat' split)<;>first|infer_instance|exact⟨false,λh=>yC h⟩
@[reducible] def R3 {i}:Sd (eB Std G C ⟨dst,.call i,ty,pos,FU,gd⟩ st K):=by
 delta eB
 try dsimp only
 (repeat' split)<;>first|infer_instance|exact⟨false,λh=>yC h⟩
@[reducible] def O3 {t m}:Sd (eB Std G C ⟨dst,.range t m,ty,pos,FU,gd⟩ st K):=by
 delta eB
 try dsimp only
 (repeat' split)<;>first|infer_instance|exact⟨false,λh=>yC h⟩
@[reducible] def R1 {it str}:Sd (eB Std G C ⟨dst,.next it str,ty,pos,FU,gd⟩ st K):=by
 delta eB
 try dsimp only
 (repeat' split)<;>first|infer_instance|exact⟨false,λh=>yC h⟩
@[reducible] def O4 {it}:Sd (eB Std G C ⟨dst,.entry it,ty,pos,FU,gd⟩ st K):=by
 delta eB
 try dsimp only
 (repeat' split)<;>first|infer_instance|exact⟨false,λh=>yC h⟩
@[reducible] def Ed {t x y}:Sd (eB Std G C ⟨dst,.makeSlice t x y,ty,pos,FU,gd⟩ st K):=by
 delta eB
 try dsimp only
 (repeat' split)<;>first|infer_instance|exact⟨false,λh=>yC h⟩
end
instance xW{o:Oper}{st:St}:Sd (eB Std G C o st K):=match o with
 |⟨_,.alloc _,_,_,_,_⟩=>O6
 |⟨_,.box _ _,_,_,_,_⟩=>Un
 |⟨_,.store _ _ _,_,_,_,_⟩=>O1
 |⟨_,.buildSlice _ _ _,_,_,_,_⟩=>Cz
 |⟨_,.assign _,_,_,_,_⟩=>LV
 |⟨_,.build _ _,_,_,_,_⟩=>O5
 |⟨_,.slice _ _ _ _ _,_,_,_,_⟩=>O2
 |⟨_,.makeMap _ _,_,_,_,_⟩=>JQ
 |⟨_,.lookup _ _ _ _,_,_,_,_⟩=>LQ
 |⟨_,.mapUpdate _ _ _ _,_,_,_,_⟩=>Ec
 |⟨_,.insert _ _ _ _,_,_,_,_⟩=>LU
 |⟨_,.call _,_,_,_,_⟩=>R3
 |⟨_,.range _ _,_,_,_,_⟩=>O3
 |⟨_,.next _ _,_,_,_,_⟩=>R1
 |⟨_,.entry _,_,_,_,_⟩=>O4
 |⟨_,.makeSlice _ _ _,_,_,_,_⟩=>Ed
 |⟨_,.move _,_,_,_,_⟩=>R2
 |⟨_,.pick _ _ _,t,_,_,_⟩=>L7 (tt:=G.tt) (ty:=t) (ob:=st.o) (K:=λv=>K v st)
 |⟨_,.load _ _,t,_,_,_⟩=>L9 (tt:=G.tt) (ty:=t) (ob:=st.o) (K:=λv=>K v st)
 |⟨_,.nilCheck _,t,_,_,_⟩=>yx (tt:=G.tt) (ty:=t) (ob:=st.o) (K:=λv=>K v st)
 |⟨_,.binOp _ _ _ _ u,t,_,_,_⟩=>IJ (z:=u) (tt:=G.tt) (ty:=t) (ob:=st.o) (K:=λv=>K v st)
 |⟨_,.unOp _ u _,t,_,_,_⟩=>L6 (t:=u) (tt:=G.tt) (ty:=t) (ob:=st.o) (K:=λv=>K v st)
 |⟨_,.convert _ _ _,t,_,_,_⟩=>Bf (tt:=G.tt) (ty:=t) (ob:=st.o) (K:=λv=>K v st)
 |⟨_,.fieldAddr _ _ _,t,_,_,_⟩=>wy (tt:=G.tt) (ty:=t) (ob:=st.o) (K:=λv=>K v st)
 |⟨_,.field _ _ _,t,_,_,_⟩=>II (tt:=G.tt) (ty:=t) (ob:=st.o) (K:=λv=>K v st)
 |⟨_,.indexAddr _ _ _,t,_,_,_⟩=>wx (tt:=G.tt) (ty:=t) (ob:=st.o) (K:=λv=>K v st)
 |⟨_,.index _ _ _,t,_,_,_⟩=>IH (tt:=G.tt) (ty:=t) (ob:=st.o) (K:=λv=>K v st)
 |⟨_,.extract _ _,t,_,_,_⟩=>Be (tt:=G.tt) (ty:=t) (ob:=st.o) (K:=λv=>K v st)
 |⟨_,.makeFunc _ _ _,t,_,_,_⟩=>yy (tt:=G.tt) (ty:=t) (ob:=st.o) (K:=λv=>K v st)
 |_=>⟨false,λh=>yC h⟩
end
abbrev aaj:=St->(PV->St->Prop)->Prop
instance {d:Option Nat}{v:PV}{st:St}{K:St->Prop} [hK:∀s,Sd (K s)]:Sd (sR G d v st K):=by
 delta sR
 split
 ·rename_i d;have:Sd (match st with|⟨s,o⟩=>K ⟨(d,v)::s,o⟩):=by split;infer_instance
  infer_instance
 ·infer_instance
@[reducible] def TU{run:aaj}(hr:∀st k,(∀v s,Sd (k v s))->Sd (run st k)){all:List Oper}{o:Oper}{st:St}{K:St->Prop}(hK:∀s,Sd (K s)):Sd (guarded G all o st run K):=by
 have hp:∀st,Sd (run st λv Ly=>sR G o.dst v Ly K):=λst=>hr _ _ λ_ _=>inferInstance
 delta guarded
 (repeat' split)<;>first|exact hp _|infer_instance|exact⟨false,λh=>yC h⟩
@[reducible] def QU(all:List Oper):∀(l:List Oper)(st:St)(Q:St->Prop),(∀s,Sd (Q s))->Sd (CA Std G C all l st Q)
 |[],st,Q,hQ=>hQ st
 |o::os,st,Q,hQ=>TU (run:=λst K=>eB Std G C o st K) (λ_ _ hk=>xW (hK:=hk)) λs=>QU all os s Q hQ
@[reducible] def Ul{all:List Oper}{o:Oper}{st:St}{K:St->Prop}(hK:∀s,Sd (K s)):Sd (guarded G all o st (λst K=>cH Std G.tt o.op o.type st.s (AM G st.o) λv=>K v st) K):=TU (λ_ _ hk=>RZ (hK:=λv=>hk v _)) hK
@[reducible] def LL(all:List Oper):∀(l:List Nat)(st:St)(Q:St->Prop),(∀s,Sd (Q s))->Sd (zh Std G C all l st Q)
 |[],st,Q,hQ=>hQ st
 |i::p,st,Q,hQ=>by
  show Sd (match tX all i with|none=>False|some o=>_);split
  ·infer_instance
  ·split
   ·exact Ul λs=>LL all p s Q hQ
   ·exact TU (run:=λst K=>eB Std G C _ st K) (λ_ _ hk=>xW (hK:=hk)) λs=>LL all p s Q hQ
@[reducible] def LM{f:Nat->Oper->Prop}(hf:∀i o,Sd (f i o)):∀l,Sd (FQ f l)
 |[]=>⟨true,λ_=>trivial⟩
 |[x]=>hf _ _
 |x::y::l=> @A1 _ _ (hf _ _) (LM hf (y::l))
instance RY{n0:Nat}{s1 s2:St}:Sd (vo n0 s1 s2):=⟨GF n0 s1 s2,JP⟩
@[reducible] def Ea(all:List Oper):∀(n:Nat)(rest:List (Nat×Nat×Oper))(L:Nat)(st:St)(Q:St->Prop),(∀s,Sd (Q s))->Sd (nE Std G C all n rest L st Q)
 |0,rest,L,st,Q,hQ=>by
  show Sd (match jh L rest with|[]=>Q st|_=>False);split
  ·exact hQ _
  ·infer_instance
 |n+1,rest,L,st,Q,hQ=>by
  show Sd (match ov G L rest with|some (i,o)=>_|none=>_);split
  ·exact Ul λs=>Ea all n _ _ s Q hQ
  ·split
   ·exact hQ _
   ·split
    ·exact TU (run:=λst K=>eB Std G C _ st K) (λ_ _ hk=>xW (hK:=hk)) λs=>Ea all n _ _ s _ λs1=> @A1 _ _ (LM (λi o=>TU (run:=λst K=>eB Std G C o st K) (λ_ _ hk=>xW (hK:=hk)) λs=>Ea all n _ _ s _ λs2=>RY) _) (hQ s1)
    ·exact LM (λi o=>TU (run:=λst K=>eB Std G C o st K) (λ_ _ hk=>xW (hK:=hk)) λs=>Ea all n _ _ s Q hQ) _
@[reducible] def Uj{id:Nat}{ops:Array Oper}{d:Bool}{st:St}{Q:St->Prop}(hQ:∀s,Sd (Q s)):Sd (GO Std G C id ops d st Q):=by
 have ff:∀b:Bool,Sd ((False->False)->b=true):=λb=>⟨b,λh _=>h⟩
 delta GO
 split
 ·exact QU _ _ _ _ hQ
 ·split
  ·exact @A1 _ _ (ff _) (Ea _ _ _ _ _ _ hQ)
  ·exact @A1 _ _ (ff _) (LL _ _ _ _ hQ)
variable {LP:Code->St->(Ex->St->Prop)->Prop}
@[reducible] def sk(hL:∀c st Q,(∀e s,Sd (Q e s))->Sd (LP c st Q)):∀(c:Code)(st:St)(Q:Ex->St->Prop),(∀e s,Sd (Q e s))->Sd (oA Std G C LP c st Q)
 | .skip,st,Q,hQ=>hQ _ _
 | .region id ops d,st,Q,hQ=>by
  show Sd (match eI id G.ox with|true=>LP (.region id ops d) st Q|false=>GO Std G C id ops d st (Q .normal));split
  ·exact hL _ _ _ hQ
  ·exact Uj λs=>hQ _ s
 | .seq x y,st,Q,hQ=>sk hL x st _ λe s=>match e with| .normal=>sk hL y s Q hQ| .exit i=>hQ _ _| .ret=>hQ _ _
 | .cond c x y,st,Q,hQ=>by show Sd (match ev st.s c with| .bl true=>oA Std G C LP x st Q| .bl false=>oA Std G C LP y st Q| .bool t=>(t=true->oA Std G C LP x (JJ c true st) Q)/\(t=false->oA Std G C LP y (JJ c false st) Q)|_=>False);have h1:=λst=>sk hL x st Q hQ;have h2:=λst=>sk hL y st Q hQ;split<;>first|exact h1 _|exact h2 _|infer_instance
 | .block id c,st,Q,hQ=>sk hL c st _ λe s=>match e with
  | .exit j=>by show Sd (match nb j id with|true=>Q .normal s|false=>Q (.exit j) s);split<;>exact hQ _ _
  | .normal=>hQ _ _| .ret=>hQ _ _
 | .exit id,st,Q,hQ=>hQ _ _
 | .ret,st,Q,hQ=>hQ _ _
 | .loop c,st,Q,hQ=>hL _ _ _ hQ
 | .rangeFunc g ps c1 c2,st,Q,hQ=>hL _ _ _ hQ
 |_,_,_,_=>by unfold oA;exact⟨false,λh=>yC h⟩
@[reducible] def QV{n0:Nat}{rs:List ResultVar}{st:St}{K:PV->List Ob->Prop}(hK:∀v o,Sd (K v o)):Sd (lh G n0 rs st K):=by
 delta lh
 split
 ·delta Aq;infer_instance
 ·infer_instance
end
section
variable {G:dH}{C:jm} [hC:Ri C]
end
def Jp(G:dH)(C:jm)(LP:Code->St->(Ex->St->Prop)->Prop)(c:Code)(Q:Ex->St->Prop):Nat->St->Prop
 |0,_=>False
 |m+1,st=>oA Std G C LP c st λe Ly=>match e with| .normal=>Jp G C LP c Q m Ly| .exit i=>Q (.exit i) Ly| .ret=>Q .ret Ly
section
variable {P:Program}{tt:TypeId->Option TI}{G:dH}
variable {st:St}{Q:Ex->St->Prop}{G:dH}{fn:Func}{args:List PV}
def HP(P:Program)(G:dH)(c:Code)(st:St)(Q:Ex->St->Prop):Prop:=∀r,(G.DB=false->r=none)->sB P G.tt G.n G.n0 r c st Q
def OV(s:cS):List Nat->List Nat
 |[]=>[]
 |t::l=>match look s t with| .mp r=>r::OV s l|_=>OV s l
theorem HP.sinks{c:Code}(js:List Nat)(h:HP P G c (sinks js st) Q):HP P G c st Q:=by intro r hr B E Pp a w hb hs;obtain⟨Pp1,q1,q2,q3,q4⟩:=tJ js hs.Ih hs.fJ;refine wpIn_mono (h r hr B E Pp1 a w hb (cK.Oh q1 q3 hs.size hs.defers)) λe a' w' h=>h
def N5(sY:ez P G.tt)(hm:P.follows .mixedOrders=true){c:Code}{m:Nat}(h:Jp G (lU P G.tt) (HP P G) c Q m st):HP P G (.loop c) st Q:=by
 intro r hr;refine za (λs t=>s=t) (λ_ hs e=>e▸⟨_,hs,λ_ h=>h⟩) (λx:Nat×St=>x.2) (λx=>Jp G (lU P G.tt) (HP P G) c Q x.1 x.2) (·.1) (m,st) h rfl ?_;rintro⟨k,s⟩ hx;cases k with
 |zero=>exact hx.elim
 |succ k=>
  refine sB.mono (rC sY hm (λ_ _ _ h=>h r hr) c s _ hx) λe s' hq=>?_;cases e with
  |normal=>exact⟨(k,s'),hq,Nat.lt_succ_self k,rfl⟩
  |exit i=>exact hq
  |ret=>exact hq
@[reducible] def GC{C:jm}[Ri C]{LP:Code->St->(Ex->St->Prop)->Prop}(hL:∀c st Q,(∀e s,Sd (Q e s))->Sd (LP c st Q)){c:Code}{Q:Ex->St->Prop}(hQ:∀e s,Sd (Q e s)):∀m st,Sd (Jp G C LP c Q m st)
 |0,_=>⟨false,λh=>yC h⟩
 |m+1,st=>sk hL c st _ λe s=>match e with| .normal=>GC hL hQ m s| .exit _=>hQ _ _| .ret=>hQ _ _
def Ya(s:cS):List Nat->cS
 |[]=>[]
 |t::l=>(t,look s t)::Ya s l
def L0:∀p:PV,yg p p:=by intro p;cases p<;>simp[yg]
def LB(s:cS):∀l,Gv s (Ya s l)
 |[]=>trivial
 |_::l=>⟨L0 _,LB s l⟩
instance {n:Nat}{st:St}{Q:Ex->St->Prop} [∀e s,Sd (Q e s)]:Sd (qD n st Q):=by
 delta qD
 (repeat' split)<;>first|infer_instance|exact⟨false,λh=>yC h⟩
@[reducible] def TT[Ri (lU P G.tt)](sY:ez P G.tt)(hm:P.follows .mixedOrders=true):Nat->∀(c:Code)(st:St)(Q:Ex->St->Prop),(∀e s,Sd (Q e s))->Sd (HP P G c st Q)
 |0,_,_,_,_=>⟨false,λh=>yC h⟩
 |n+1,c,st,Q,hQ=>match c with
  | .loop c=>⟨(GC (TT sY hm n) hQ 100000 (sinks (OV st.s G.XH) st)).b,λh=>HP.sinks _ (N5 sY hm ((GC (TT sY hm n) hQ 100000 (sinks (OV st.s G.XH) st)).h h))⟩
  | .rangeFunc g ps c1 c2=>match hg:ev st.s g with
   | .cu f gU=>match hf:P.funcs[f]? with
    |some fn=>match hb:fn.body with
     |some code=>
      let x:Sd (yd G (lU P G.tt) f gU ps c1 c2 (Ya st.s (match G.R4 with|[]=>Fa G.n 0|l=>l)) st Q):=by delta yd;infer_instance
      ⟨((fn.name== "runtime.NumGoroutine")==false&&iC f kB&&fP G.DB)&&x.b,λh=>by
        simp only[bn,beq_iff_eq]at h;have h5:G.DB=false:=by have:=h.1.2;cases hr:G.DB<;>simp[hr,fP]at this ⊢
        intro r hr;obtain rfl:=hr h5;exact ye hg ⟨hf,h.1.1.1,hb⟩ h.1.1.2 (LB _ _) (x.h h.2)⟩
     |none=>⟨false,λh=>yC h⟩
    |none=>⟨false,λh=>yC h⟩
   |_=>⟨false,λh=>yC h⟩
  |_=>⟨false,λh=>yC h⟩
def LD(G:dH)(rs:List ResultVar)(st:St):St:=match G.XH with
 |[]=>st
 |_=>match yb G st rs with|some (.row _ r)=>⟨Hd st.o r st.s,fz [r] 0 st.o⟩|some v=>sinks (CO v) st|none=>st
def PM{tt:TypeId->Option TI}{B:jH}{E:List RI}{Pp:fQ}{w:World}{a:Act}(r:Nat)(h:cK tt B E Pp st.o w)(hs:∀t,VR tt E Pp (a.tmps.getD t undef) (look st.s t)):
 cK tt B E (gQ tt E st.o w Pp [r]) (fz [r] 0 st.o) w/\∀t,VR tt E (gQ tt E st.o w Pp [r]) (a.tmps.getD t undef) (look (Hd st.o r st.s) t):=by
 refine⟨h.nM [r],λt'=>?_⟩;rw[vE];have h2:=hs t';generalize look st.s t'=p at h2;unfold Px;split
 ·rename_i e' x;cases hb:nb x r with
  |false=>exact h2.mono (λ_ _ h=>h) (λ_ _ h=>.inl h)
  |true=>have:=cX hb;subst this;exact(s3 h.wr 8 _ _ h2 (λi hi=>hi)).mono (λ_ _ h=>yE h) (λ_ _ h=>h)
 ·exact h2.mono (λ_ _ h=>h) (λ_ _ h=>.inl h)
def FC.UJ{f:FuncId}{c:Code}{objs:List Ob}{K:PV->List Ob->Prop}(sY:ez P G.tt)(hm:P.follows .mixedOrders=true)(hf:P.funcs[f]? =some fn)(hb:fn.body=some c)
 (hs:((fn.name== "runtime.NumGoroutine")==false&&nb fn.ntmps G.n&&nb (bY objs) G.n0&&iD (bY args) G.n)=true)
 (h:oA Std G (lU P G.tt) (HP P G) c (IX G.Bt objs args) λe st=>match e with| .exit _=>False|_=>lh G G.n0 fn.results.toList (LD G fn.results.toList st) K):FC P G.tt f objs args K:=by
 simp only[bn,beq_iff_eq]at hs;obtain⟨⟨⟨h1,h2⟩,h3⟩,h4⟩:=hs;have h3:=cX h3;rw[cL]at h3;refine Du (LP:=HP P G) (λ_ _ _ h=>h none λ_=>rfl) sY hm h1 hf hb h3 _ (Lw G.Bt (cX h2) h4) h ?_;intro E Pp w E' Pp' Ly a' w' d hw hr Ko
 have key:∃Rj,gW G.tt G.n { w0:=w,E0:=E,P0:=Pp,mo:=own E objs,d0:=d } E' Rj (LD G fn.results.toList Ly) a' w':=by
  unfold LD;split
  ·exact⟨_,Ko⟩
  ·split
   ·rename_i r _;have q:=PM r Ko.Ih Ko.fJ;exact⟨_,cK.Oh q.1 q.2 Ko.size Ko.defers⟩
   ·obtain⟨Rj,q1,q2,q3,q4⟩:=tJ (CO _) Ko.Ih Ko.fJ;exact⟨Rj,cK.Oh q1 q3 Ko.size Ko.defers⟩
   ·exact⟨_,Ko⟩
 generalize LD G fn.results.toList Ly=Ly at hr key;obtain⟨Rj,Ko⟩:=key;unfold lh at hr;split at hr
 ·rename_i p hp;obtain⟨v,h1,h2⟩:=tP sY Ko hp;rw[<- h3]at hr;exact⟨v,h1,CJ hw (s':=Ly.s) (o':=Ly.o) Ko h2 hr⟩
 ·exact hr.elim
def FC.VT{f:FuncId}{c:Code}{K:PV->List Ob->Prop}(sY:ez P G.tt)(hm:P.follows .mixedOrders=true)(hf:P.funcs[f]? =some fn)(hb:fn.body=some c)
 (hs:((fn.name== "runtime.NumGoroutine")==false&&nb fn.ntmps G.n&&nb 0 G.n0&&iD (bY args) G.n)=true)
 (h:oA Std G (lU P G.tt) (HP P G) c ⟨mg 0 args,[]⟩ λe st=>match e with| .exit _=>False|_=>CD G 0 fn.results.toList st K):FC P G.tt f [] args K:=by
 simp only[bn,beq_iff_eq]at hs;obtain⟨⟨⟨h1,h2⟩,h3⟩,h4⟩:=hs;have h3:=cX h3;exact Ro sY hm h1 hf hb (cX h2) h3.symm h4 (λ_ _ _ h=>h none λ_=>rfl) h
instance QT{G:dH}{n0:Nat}{rs:List ResultVar}{st:St}{K:PV->List Ob->Prop}[∀v o,Sd (K v o)]:Sd (CD G n0 rs st K):=by
 delta CD
 split<;>infer_instance
instance {st:St}{j j':LS}{K:St->Prop} [∀s,Sd (K s)]:Sd (iI st j j' K):=by
 delta iI
 (repeat' split)<;>first|infer_instance|exact⟨false,λh=>yC h⟩
instance {n0:Nat}{v:PV}{o:List Ob}{ps:List Nat}{K:PV->List Ob->Prop} [∀v o,Sd (K v o)]:Sd (Aq n0 v o ps K):=by delta Aq;infer_instance
instance {n0:Nat}{e:Ex}{st:St}{K:PV->List Ob->Prop} [∀v o,Sd (K v o)]:Sd (mT n0 e st K):=by
 delta mT
 split<;>infer_instance
structure Rn (P:Program) (tt:TypeId->Option TI) where
 cfg:FuncId->Option dH
 DB:Nat->List Nat->Option dH
 own:FuncId->Bool
 Oj:∀(f:FuncId)(o:List Ob)(a:List PV),Option { r:PV×List Ob // ∀K:PV->List Ob->Prop,K r.1 r.2->FC P tt f o a K }
 gss:∀(f:FuncId)(o:List Ob)(a:List PV),Option (PV×List Ob)
@[reducible] def Uk(sY:ez P tt)(hm:P.follows .mixedOrders=true)(R:Rn P tt)(rec:∀(w:Qj)(o:List Ob)(a:List PV)(K:PV->List Ob->Prop),(∀v o',Sd (K v o'))->Sd (lU P tt w o a K))(f:FuncId)(o:List Ob)(a:List PV)(K:PV->List Ob->Prop)(hK:∀v o',Sd (K v o')):Sd (lU P tt (.fn f) o a K):=
 match R.Oj f o a with
  |some r=>⟨(hK r.1.1 r.1.2).b,λh=>r.2 K ((hK r.1.1 r.1.2).h h)⟩
  |none=>match hf:P.funcs[f]?,R.cfg f with
  |some fn,some G=>(match hb:fn.body with
   |some c=>match o,R.own f with
    |[],false=>
     let G':dH:={ G with tt:=tt,n0:=0,ox:=[],DB:=false };have:Ri (lU P G'.tt):=⟨rec⟩;let x:=sk (G:=G') (C:=lU P G'.tt) (TT (G:=G') sY hm 9) c ⟨mg 0 a,[]⟩ (λe st=>match e with| .exit _=>False|_=>CD G' 0 fn.results.toList st K) λe s=>match e with| .exit _=>⟨false,λh=>yC h⟩| .normal=>QT| .ret=>QT
     ⟨(((fn.name== "runtime.NumGoroutine")==false&&nb fn.ntmps G'.n&&nb 0 G'.n0&&iD (bY a) G'.n)&&x.b),λh=>by rw[bn]at h;exact FC.VT (G:=G') sY hm hf hb h.1 (x.h h.2)⟩
    |o,_=>
     let G':dH:={ G with tt:=tt,n0:=bY o,ox:=[],DB:=false };have:Ri (lU P G'.tt):=⟨rec⟩;let x:=sk (G:=G') (C:=lU P G'.tt) (TT (G:=G') sY hm 9) c (IX G'.Bt o a) (λe st=>match e with| .exit _=>False|_=>lh G' G'.n0 fn.results.toList (LD G' fn.results.toList st) K) λe s=>match e with| .exit _=>⟨false,λh=>yC h⟩| .normal=>QV hK| .ret=>QV hK
     ⟨(((fn.name== "runtime.NumGoroutine")==false&&nb fn.ntmps G'.n&&nb (bY o) G'.n0&&iD (bY a) G'.n)&&x.b),λh=>by rw[bn]at h;exact FC.UJ (G:=G') sY hm hf hb h.1 (x.h h.2)⟩
   |none=>⟨false,λh=>yC h⟩)
  |_,_=>⟨false,λh=>yC h⟩
@[reducible] def Iq(sY:ez P tt)(hm:P.follows .mixedOrders=true)(R:Rn P tt):Nat->∀(w:Qj)(o:List Ob)(a:List PV)(K:PV->List Ob->Prop),(∀v o',Sd (K v o'))->Sd (lU P tt w o a K)
 |0,_,_,_,_,_=>⟨false,λh=>yC h⟩
 |k+1,.kF,o,a,K,hK=>match o with
  | .loop n ps c1 c2 s .ready::os=>match R.DB n ps with
   |some G=>
    let G':dH:={ G with tt:=tt,n:=n,n0:=bY os+1,ox:=[],DB:=true };have:Ri (lU P G'.tt):=⟨Iq sY hm R k⟩
    let x:=sk (G:=G') (C:=lU P G'.tt) (TT (G:=G') sY hm 9) c1 (po s ps (.loop n ps c1 c2 s .ready::os) a)
     (λe st=>match e with| .normal=>iI st .ready .busy λst=>oA Std G' (lU P G'.tt) (HP P G') c2 st λe st=>mT G'.n0 e st K|_=>False)
     λe s=>match e with
      | .normal=>
       have:∀st,Sd (oA Std G' (lU P G'.tt) (HP P G') c2 st λe st=>mT G'.n0 e st K):=λst=>sk (G:=G') (C:=lU P G'.tt) (TT (G:=G') sY hm 9) c2 st _ λe s=>inferInstance
       inferInstanceAs (Sd (iI s .ready .busy λst=>oA Std G' (lU P G'.tt) (HP P G') c2 st λe st=>mT G'.n0 e st K))
      | .exit _=>⟨false,λh=>yC h⟩| .ret=>⟨false,λh=>yC h⟩
    ⟨(nb (bY a) (bY ps)&&vT n ps)&&x.b,λh=>by simp only[bn]at h;exact YC.Na (G:=G') sY hm (jQ _) (jQ _) h.1.1 h.1.2 λl=>⟨HP P G',λ_ _ _ h=>h (some l) (λh=>yC h),x.h h.2⟩⟩
   |none=>⟨false,λh=>yC h⟩
  |_=>⟨false,λh=>yC h⟩
 |n+1,.fn f,o,a,K,hK=>match R.gss f o a with
  |some r=>
   let x:=Uk sY hm R (Iq sY hm R n) f o a (λv o'=>tk v r.1=true/\Da o' r.2=true) λv o'=>A1
   ⟨x.b&&(hK r.1 r.2).b,λh=>by rw[bn]at h;exact FC.mono (x.h h.1) λv o' hv=>by rw[C9 hv.1,uv hv.2];exact(hK r.1 r.2).h h.2⟩
  |none=>Uk sY hm R (Iq sY hm R n) f o a K hK
end
end Sd
end
end
end Go.VC
