/- Part 4 of the common texts. -/
import Derived.Test.YtefbdgenddbehaaGreatDoorPart3
set_option linter.all false
set_option maxRecDepth 100000
set_option maxHeartbeats 16000000
open And renaming intro→bw
open Array renaming size→M0,size_map→Df
open Bool renaming and_eq_true→bI,and_false→fb,and_true→qI,eq_iff_iff→cm,false_and→fH,false_eq_true→cC,not_false→oR,not_not→xS,or_eq_true→gh,or_true→ow,true_and→fB,true_or→xR
open Decidable renaming em→O6
open Eq renaming trans→ku
open Int renaming natCast_nonneg→cW,ofNat→br,ofNat_eq_natCast→bz,ofNat_lt→jy,toNat_natCast→jV
open Int.ofNat renaming inj→AH
open List renaming all_append→nS,all_cons→wL,all_eq_false→qo,all_nil→Ip,any_cons→kW,append_assoc→bN,append_nil→cA,cons_append→cO,drop_eq_getElem_cons→bM,drop_length→bZ,drop_succ_cons→vQ,drop_zero→Dl,eq_nil_of_length_eq_zero→cz,filter_cons→Ac,find?_cons→cB,find?_eq_none→eV,flatMap_append→cV,flatMap_assoc→M9,flatMap_cons→eQ,flatMap_nil→qM,foldl_append→l8,foldl_cons→iG,getD→cj,getElem?_cons_succ→gR,getElem?_cons_zero→Hf,getElem?_eq_some_iff→dF,getElem?_of_mem→gH,getElem_cons_zero→Io,getElem_mem→bx,length→jt,length_append→bE,length_cons→bS,length_filter_le→th,length_flatMap→n2,length_map→bQ,length_nil→cH,length_singleton→eg,length_take→cZ,length_zip→BW,map_append→cg,map_congr_left→hJ,map_cons→bO,map_map→ju,map_nil→iL,map_take→FA,mem_append→bJ,mem_append_left→eu,mem_append_right→dV,mem_cons→bP,mem_filter→jz,mem_flatMap→cN,mem_map→bT,mem_of_find?_eq_some→di,mem_of_mem_take→ue,mem_singleton→cU,nil_append→ep,nodup_append→eb,nodup_cons→cn,not_mem_nil→mK,pairwise_cons→cJ,pairwise_iff_getElem→iD,perm_ext_iff_of_nodup→oQ,range→gU,singleton_append→JQ,sum_append→ea,sum_cons→ch,sum_nil→ov,take_append_drop→dG,take_length→bF,take_of_length_le→cG,take_succ_cons→MX,take_zero→j5
open List.Pairwise renaming imp→ic
open List.Perm renaming eq_of_pairwise→AG
open Nat renaming add_assoc→eR,add_mul→ez,le_refl→ca,le_trans→bR,lt_of_le_of_lt→lD,min_self→JN,one_mul→qE,zero_le→bD
open Ne renaming symm→eh
open Option renaming getD_none→qD,getD_some→dQ,isSome_iff_exists→dy,isSome_none→ou,map_some→cu
open Option.some renaming inj→fF,injEq→cr
open Or renaming comm→JX,inl→bG
open Prod renaming ext→dR
namespace Go.VC
section
variable {i:Nat}{l:List Fe}
def Ty.NM(t:Ty):List Int:=[t.k,br t.m.length,br t.n.length,br t.ar.length,br t.fl.length]
def Pa(t:Ty):t.wr=t.NM.flatMap pH++t.m++t.n++Ty.qQ t.ar++Ty.tl t.fl:=by cases t;simp[Ty.wr,Ty.NM,Ty.k,Ty.m,Ty.n,Ty.ar,Ty.fl,bN]
def BY:∀(l k:List Ty),Ty.qQ (l++k)=Ty.qQ l++Ty.qQ k
 |[],k=>rfl
 |t::l,k=>by rw[cO,Ty.qQ,BY l k,Ty.qQ,bN]
def BZ:∀(l k:List Fe),Ty.tl (l++k)=Ty.tl l++Ty.tl k
 |[],k=>rfl
 |t::l,k=>by rw[cO,Ty.tl,BZ l k,Ty.tl,bN]
def Dn{l:List Ty}(h:i<l.length):Ty.qQ (l.take (i+1))=Ty.qQ (l.take i)++l[i].wr:=by rw[bX h,BY,Ty.qQ,Ty.qQ,cA]
def Dq(h:i<l.length):Ty.tl (l.take (i+1))=Ty.tl (l.take i)++l[i].wr:=by rw[bX h,BZ,Ty.tl,Ty.tl,cA]
def sk{l:List Int}(h:i<l.length):(l.take (i+1)).flatMap pH=(l.take i).flatMap pH++pH l[i]:=by rw[bX h,cV];simp
def Hh{l:List Ty}:(Ty.qQ (l.take i)).length<=(Ty.qQ l).length:=by
 have:Ty.qQ l=Ty.qQ (l.take i)++Ty.qQ (l.drop i):=by rw[<- BY,dG]
 rw[this];simp
def Hk:(Ty.tl (l.take i)).length<=(Ty.tl l).length:=by
 have:Ty.tl l=Ty.tl (l.take i)++Ty.tl (l.drop i):=by rw[<- BZ,dG]
 rw[this];simp
def uK{l:List Int}:((l.take i).flatMap pH).length<=(l.flatMap pH).length:=by
 have:l.flatMap pH=(l.take i).flatMap pH++(l.drop i).flatMap pH:=by rw[<- cV,dG]
 rw[this];simp
end
end Go.VC
namespace Go.VC.cK
open Go Go.VC Go.Proofs Go.Shelf
def U5:eE:={tt:=tt,n:=83,n0:=2,live:=[105,107,65]}
abbrev To(i:Nat)(p:PV)(r:D):List Ob:=match i with
 |0=>[.box [p,.row 5 2],.dead,.row 5 r true]
 |_+1=>[.box [.box 0 0,.row 5 2],.dead,.row 5 r true]
def XV:∀(t:Ty),Ty.le 4294967295 t->(∀u∈t.all,0<=u.k/\u.k<=10)->∀{l:S}{d:D}{p:PV}(hd:d= .list (dX l))(hp:p= .nilp\/p= .box 0 0){E:Int}{c1 c2:S}{v g:D}(ht:cD t E c1 c2 v g)(hs:l.length+t.wr.length<=4294967296){K:PV->List Ob->Prop}
 (h:∀r,r= .list (dX (l++t.wr))->K (.tup []) [.box [.box 0 0,.row 5 2],.dead,.row 5 r true]),FT 65 [.box [p,.row 5 1],.row 5 d true] [.box 0 0,df E c1 c2 v g] K:=by
 refine Ty.fC λt ih=>?_;intro ab ae l d p hd hp E c1 c2 v g ht hs K h;obtain⟨t0,t1,t2,ai,U⟩:=ht;obtain⟨aK,aB⟩:=ae t (ji t);have aC:t.ar.length<=4294967295:=by cases ab;assumption
 have aH:t.fl.length<=4294967295:=by cases ab;assumption
 rw[Pa]at hs;rw[Pa]at h;simp only[bE]at hs;have aI:t.m.length<=4294967296:=yO;have aG:t.n.length<=4294967296:=yO;obtain⟨ns,ak⟩:∃ns,ns=t.NM:=⟨_,rfl⟩;rw[<- ak]at hs h;have ax:ns.length=5:=by rw[ak];rfl
 have aa:∀x∈ns,-9223372036854775808<=x/\x<=9223372036854775807:=by rw[ak];intro x hx;simp only[Ty.NM,bP,mK,or_false,bz]at hx;omega
 refine el U5 Tryz.func65 λA C L X=>?_;obtain⟨N,V,z⟩:=lenOf ai;obtain⟨O,T,B⟩:=lenOf U;have hL:A.lit [[.int E],[.int (A.dz c1)],[.int (A.dz c2)],[.int (A.len v)],[.int (A.len g)]]=lO ns:=by rw[X.a,ak,t0,t1,t2,z,B,V,T];rfl
 have H:A.len (A.lit [[.int E],[.int (A.dz c1)],[.int (A.dz c2)],[.int (A.len v)],[.int (A.len g)]])=5:=by rw[hL,X.a,pw,ax];rfl
 rcases hp with rfl|rfl
 ·cbv;refine lP X (λy=>y.1<=5/\y.2= .list (dX (l++(ns.take y.1).flatMap pH))) (λy=>5-y.1) (0,d) ⟨bD _,yU hd⟩ [0,1,2,3] (λ(y:Nat×D)=>⟨[(26,.int .i64 y.1),(25,.int .i64 (A.len (A.lit [[.int E],[.int (A.dz c1)],[.int (A.dz c2)],[.int (A.len v)],[.int (A.len g)]]))),(24,.pe 3 (A.lit [[.int E],[.int (A.dz c1)],[.int (A.dz c2)],[.int (A.len v)],[.int (A.len g)]])),(3,.box 3 0),(0,.box 0 0)],(To y.1 .nilp y.2)++[.box [.int .i64 E,.str c1,.str c2,.lst 29 v,.lst 42 g]]⟩) ?_;rintro⟨i,r⟩ ⟨hi,hr⟩;simp only at hi hr;rcases i with _|i
  ·cbv;constructor<;>intro h1
   ·have h1:A.lt (br (0)) (A.len (A.lit [[.int E],[.int (A.dz c1)],[.int (A.dz c2)],[.int (A.len v)],[.int (A.len g)]]))=true:=h1;have h6:0<ns.length:=by rw[H,X.a,ik]at h1;have:=of_decide_eq_true h1;simp only[bz]at this;omega
    have G:A.idx (br (0)) (A.len (A.lit [[.int E],[.int (A.dz c1)],[.int (A.dz c2)],[.int (A.len v)],[.int (A.len g)]])):=by rw[H,X.a,l6];simp only[bz];omega
    have I:A.inr .i64 (A.add (br (0)) 1):=by rw[X.a];exact ek (n:=5) yO yO
    have hc:A.asInt (A.cell (A.lit [[.int E],[.int (A.dz c1)],[.int (A.dz c2)],[.int (A.len v)],[.int (A.len g)]]) (br (0)) 0)=ns[0]:=by rw[hL,X.a,px];simp[h6]
    have hb:=aa _ (bx h6);rw[<- hc]at hb;have b:=sk h6;rw[<- hc]at b;have j:=uK (l:=ns) (i:=0+1);rw[b]at j;simp only[pH,bE,bS,cH]at j;clear h1;cbv;refine⟨G,?_⟩;refine X.call (BT hb.1 hb.2 λW a=>?_);have a:W=Lib.itoa (A.asInt (A.cell (A.lit [[.int E],[.int (A.dz c1)],[.int (A.dz c2)],[.int (A.len v)],[.int (A.len g)]]) (br (0)) 0)):=a;rw[<- a]at j;cbv;refine X.call (vI hr (.inl rfl) yL λr2 m=>?_);cbv;refine X.call (O1 (c:=32) m (.inr rfl) yL λM o=>?_);have Q:M= .list (dX (l++(ns.take (0+1)).flatMap pH)):=by rw[b,pH,<-a,<-bN,<-bN];exact o
    clear a m o;refine p1 ?_;exact⟨(0+1,M),⟨yP,Q⟩,yP,[0,1,5,3],rfl,yc⟩
   ·exfalso;have h1:A.lt (br 0) (A.len (A.lit [[.int E],[.int (A.dz c1)],[.int (A.dz c2)],[.int (A.len v)],[.int (A.len g)]]))=false:=h1;rw[H,X.a]at h1;cases h1
  ·cbv;constructor<;>intro h1
   ·have h1:A.lt (br (i+1)) (A.len (A.lit [[.int E],[.int (A.dz c1)],[.int (A.dz c2)],[.int (A.len v)],[.int (A.len g)]]))=true:=h1;have h6:i+1<ns.length:=by rw[H,X.a,ik]at h1;have:=of_decide_eq_true h1;simp only[bz]at this;omega
    have G:A.idx (br (i+1)) (A.len (A.lit [[.int E],[.int (A.dz c1)],[.int (A.dz c2)],[.int (A.len v)],[.int (A.len g)]])):=by rw[H,X.a,l6];simp only[bz];omega
    have I:A.inr .i64 (A.add (br (i+1)) 1):=by rw[X.a];exact ek (n:=5) yO yO
    have hc:A.asInt (A.cell (A.lit [[.int E],[.int (A.dz c1)],[.int (A.dz c2)],[.int (A.len v)],[.int (A.len g)]]) (br (i+1)) 0)=ns[i+1]:=by rw[hL,X.a,px];simp[h6]
    have hb:=aa _ (bx h6);rw[<- hc]at hb;have b:=sk h6;rw[<- hc]at b;have j:=uK (l:=ns) (i:=i+1+1);rw[b]at j;simp only[pH,bE,bS,cH]at j;clear h1;cbv;refine⟨G,?_⟩;refine X.call (BT hb.1 hb.2 λW a=>?_);have a:W=Lib.itoa (A.asInt (A.cell (A.lit [[.int E],[.int (A.dz c1)],[.int (A.dz c2)],[.int (A.len v)],[.int (A.len g)]]) (br (i+1)) 0)):=a;rw[<- a]at j;cbv;refine X.call (vI hr (.inr rfl) yL λr2 m=>?_);cbv;refine X.call (O1 (c:=32) m (.inr rfl) yL λM o=>?_);have Q:M= .list (dX (l++(ns.take (i+1+1)).flatMap pH)):=by rw[b,pH,<-a,<-bN,<-bN];exact o
    clear a m o;cbv;repeat' (first|apply bw|exact zf|(intro J;cbv)|apply bG)
    all_goals try exact I
    exact⟨(i+1+1,M),⟨yP,Q⟩,yP,[0,1,5,3],rfl,yc⟩
   ·have hr:r= .list (dX (l++ns.flatMap pH)):=by
     have h6:i+1=5:=by have h1:A.lt (br (i+1)) (A.len (A.lit [[.int E],[.int (A.dz c1)],[.int (A.dz c2)],[.int (A.len v)],[.int (A.len g)]]))=false:=h1;rw[H,X.a,ik]at h1;have:=of_decide_eq_false h1;simp only[bz]at this;omega
     rw[hr,h6,cG yO]
    clear h1 hi hd hL H aa;cbv;refine X.call (vI (s:=c1) hr (.inr rfl) (by rw[t1];simp only[bE];omega) λW a=>?_);cbv;refine X.call (vI (s:=c2) a (.inr rfl) (by rw[t1,t2];simp only[bE];omega) λr2 m=>?_);obtain⟨w,hw⟩:∃w,w=l++ns.flatMap pH++c1++c2:=⟨_,rfl⟩;rw[<- hw]at m;have ay:w.length=l.length+(ns.flatMap pH).length+t.m.length+t.n.length:=by rw[hw,t1,t2];simp[eR]
    have h:∀r,r= .list (dX (w++Ty.qQ t.ar++Ty.tl t.fl))->K (.tup []) [.box [.box 0 0,.row 5 2],.dead,.row 5 r true]:=λr e=>h r (by rw[e,hw,t1,t2];simp only[bN]);clear hr a hw;cbv;refine lP X (λy=>y.1<=N/\y.2= .list (dX (w++Ty.qQ (t.ar.take y.1)))) (λy=>N-y.1) (0,r2) ⟨bD _,by simpa[Ty.qQ]using m⟩ [0,1,5,3] (λ(y:Nat×D)=>⟨[(48,.int .i64 y.1),(47,.int .i64 (A.len v)),(46,.lst 29 v),(3,.box 3 0),(0,.box 0 0)],[.box [.box 0 0,.row 5 2],.dead,.row 5 y.2 true,.box [.int .i64 E,.str c1,.str c2,.lst 29 v,.lst 42 g]]⟩) ?_;clear m;rintro⟨k,r⟩ ⟨hk,hr⟩;simp only at hk hr;cbv;constructor<;>intro h1
    ·have h5:k<t.ar.length:=lY X.a z h1;have k1:=gI X.a ai h5;have G:=iX X.a ai h5;have I:=jX X.a h5;have F:t.ar[k]∈t.dP:=by simp[Ty.dP]
     have b:=Dn h5;have j:=Hh (l:=t.ar) (i:=k+1);rw[b,bE]at j;clear h1;cbv;refine⟨G,?_⟩;refine X.call (ih _ F (gP ab _ F) (λu hu=>ae u (lU F hu)) hr (.inr rfl) k1 (by rw[bE];omega) λM o=>?_);have Q:M= .list (dX (w++Ty.qQ (t.ar.take (k+1)))):=by rw[b,<-bN];exact o
     cbv;repeat' (first|apply bw|exact zf|(intro J;cbv)|apply bG)
     all_goals try exact I
     exact⟨(k+1,M),⟨yP,Q⟩,yP,[0,1,5,3],rfl,yc⟩
    have h5:k=N:=gY X.a z h1;rw[h5,V,bF]at hr;clear h1 hk h5;cbv;refine lP X (λy=>y.1<=O/\y.2= .list (dX (w++Ty.qQ t.ar++Ty.tl (t.fl.take y.1)))) (λy=>O-y.1) (0,r) ⟨bD _,by simpa[Ty.tl]using hr⟩ [0,1,2,3] (λ(y:Nat×D)=>⟨[(59,.int .i64 y.1),(58,.int .i64 (A.len g)),(57,.lst 42 g),(3,.box 3 0),(0,.box 0 0)],[.box [.box 0 0,.row 5 2],.dead,.row 5 y.2 true,.box [.int .i64 E,.str c1,.str c2,.lst 29 v,.lst 42 g]]⟩) ?_;clear hr;rintro⟨k,r⟩ ⟨hk,hr⟩;simp only at hk hr;cbv;constructor<;>intro h1
    ·have h5:k<t.fl.length:=lY X.a B h1;have k1:=kE X.a U h5;obtain⟨k2,k3⟩:=wF X.a U h5;have G:=iX X.a U h5;have I:=jX X.a h5;have F:t.fl[k].t∈t.dP:=by simp only[Ty.dP,bJ,bT];exact .inr ⟨_,bx h5,rfl⟩
     have b:=Dq h5;have j:=Hk (l:=t.fl) (i:=k+1);have R:t.fl[k].wr=Lib.itoa (br (A.bL (A.cell g (br k) 0)).length)++Lib.formatBool (A.asBool (A.cell g (br k) 6))++A.bL (A.cell g (br k) 0)++t.fl[k].t.wr:=by rw[k2,k3];generalize t.fl[k]=f;cases f;rfl
     rw[b,R]at j;rw[R]at b;simp only[bE]at j;have ag:A.dz (A.bL (A.cell g (br k) 0))=br (A.bL (A.cell g (br k) 0)).length:=yX;have af: -9223372036854775808<=A.dz (A.bL (A.cell g (br k) 0))/\A.dz (A.bL (A.cell g (br k) 0))<=9223372036854775807:=by obtain⟨sl,ah⟩:∃sl,sl=(A.bL (A.cell g (br k) 0)).length:=⟨_,rfl⟩;have av:sl<=4294967296:=yO;rw[ag,<-ah];simp only[bz];omega
     clear h1 k2 k3 R;cbv;refine⟨G,?_⟩;refine X.call (BT af.1 af.2 λW a=>?_);have a:W=Lib.itoa (br (A.bL (A.cell g (br k) 0)).length):=by rw[<- ag];exact a
     rw[<- a]at j b;cbv;refine X.call (vI hr (.inr rfl) yL λr2 m=>?_);cbv;refine X.call (Ud λM o=>?_);have o:M=Lib.formatBool (A.asBool (A.cell g (br k) 6)):=o;rw[<- o]at j b;cbv;refine X.call (vI m (.inr rfl) yL λr4 ac=>?_);cbv;refine X.call (vI (s:=A.bL (A.cell g (br k) 0)) ac (.inr rfl) (by simp only[bE];omega) λr5 ad=>?_);cbv;refine X.call (ih _ F (gP ab _ F) (λu hu=>ae u (lU F hu)) ad (.inr rfl) k1 (by simp only[bE];omega) λr6 P=>?_);have Q:r6= .list (dX (w++Ty.qQ t.ar++Ty.tl (t.fl.take (k+1)))):=by rw[b];simp only[<- bN];(try simp only[<- bN]at P);exact P
     clear a m o ac ad P;refine p1 ?_;exact⟨(k+1,r6),⟨yP,Q⟩,yP,[0,1,8,3],rfl,yc⟩
    ·have h5:k=O:=gY X.a B h1;rw[h5,T,bF]at hr;have q:=h r hr;cbv;exact q
 ·cbv;refine lP X (λy=>y.1<=5/\y.2= .list (dX (l++(ns.take y.1).flatMap pH))) (λy=>5-y.1) (0,d) ⟨bD _,yU hd⟩ [0,1,2,3] (λ(y:Nat×D)=>⟨[(26,.int .i64 y.1),(25,.int .i64 (A.len (A.lit [[.int E],[.int (A.dz c1)],[.int (A.dz c2)],[.int (A.len v)],[.int (A.len g)]]))),(24,.pe 3 (A.lit [[.int E],[.int (A.dz c1)],[.int (A.dz c2)],[.int (A.len v)],[.int (A.len g)]])),(3,.box 3 0),(0,.box 0 0)],(To y.1 (.box 0 0) y.2)++[.box [.int .i64 E,.str c1,.str c2,.lst 29 v,.lst 42 g]]⟩) ?_;rintro⟨i,r⟩ ⟨hi,hr⟩;simp only at hi hr;rcases i with _|i
  ·cbv;constructor<;>intro h1
   ·have h1:A.lt (br (0)) (A.len (A.lit [[.int E],[.int (A.dz c1)],[.int (A.dz c2)],[.int (A.len v)],[.int (A.len g)]]))=true:=h1;have h6:0<ns.length:=by rw[H,X.a,ik]at h1;have:=of_decide_eq_true h1;simp only[bz]at this;omega
    have G:A.idx (br (0)) (A.len (A.lit [[.int E],[.int (A.dz c1)],[.int (A.dz c2)],[.int (A.len v)],[.int (A.len g)]])):=by rw[H,X.a,l6];simp only[bz];omega
    have I:A.inr .i64 (A.add (br (0)) 1):=by rw[X.a];exact ek (n:=5) yO yO
    have hc:A.asInt (A.cell (A.lit [[.int E],[.int (A.dz c1)],[.int (A.dz c2)],[.int (A.len v)],[.int (A.len g)]]) (br (0)) 0)=ns[0]:=by rw[hL,X.a,px];simp[h6]
    have hb:=aa _ (bx h6);rw[<- hc]at hb;have b:=sk h6;rw[<- hc]at b;have j:=uK (l:=ns) (i:=0+1);rw[b]at j;simp only[pH,bE,bS,cH]at j;clear h1;cbv;refine⟨G,?_⟩;refine X.call (BT hb.1 hb.2 λW a=>?_);have a:W=Lib.itoa (A.asInt (A.cell (A.lit [[.int E],[.int (A.dz c1)],[.int (A.dz c2)],[.int (A.len v)],[.int (A.len g)]]) (br (0)) 0)):=a;rw[<- a]at j;cbv;refine X.call (vI hr (.inr rfl) yL λr2 m=>?_);cbv;refine X.call (O1 (c:=32) m (.inr rfl) yL λM o=>?_);have Q:M= .list (dX (l++(ns.take (0+1)).flatMap pH)):=by rw[b,pH,<-a,<-bN,<-bN];exact o
    clear a m o;refine p1 ?_;exact⟨(0+1,M),⟨yP,Q⟩,yP,[0,1,5,3],rfl,yc⟩
   ·exfalso;have h1:A.lt (br 0) (A.len (A.lit [[.int E],[.int (A.dz c1)],[.int (A.dz c2)],[.int (A.len v)],[.int (A.len g)]]))=false:=h1;rw[H,X.a]at h1;cases h1
  ·cbv;constructor<;>intro h1
   ·have h1:A.lt (br (i+1)) (A.len (A.lit [[.int E],[.int (A.dz c1)],[.int (A.dz c2)],[.int (A.len v)],[.int (A.len g)]]))=true:=h1;have h6:i+1<ns.length:=by rw[H,X.a,ik]at h1;have:=of_decide_eq_true h1;simp only[bz]at this;omega
    have G:A.idx (br (i+1)) (A.len (A.lit [[.int E],[.int (A.dz c1)],[.int (A.dz c2)],[.int (A.len v)],[.int (A.len g)]])):=by rw[H,X.a,l6];simp only[bz];omega
    have I:A.inr .i64 (A.add (br (i+1)) 1):=by rw[X.a];exact ek (n:=5) yO yO
    have hc:A.asInt (A.cell (A.lit [[.int E],[.int (A.dz c1)],[.int (A.dz c2)],[.int (A.len v)],[.int (A.len g)]]) (br (i+1)) 0)=ns[i+1]:=by rw[hL,X.a,px];simp[h6]
    have hb:=aa _ (bx h6);rw[<- hc]at hb;have b:=sk h6;rw[<- hc]at b;have j:=uK (l:=ns) (i:=i+1+1);rw[b]at j;simp only[pH,bE,bS,cH]at j;clear h1;cbv;refine⟨G,?_⟩;refine X.call (BT hb.1 hb.2 λW a=>?_);have a:W=Lib.itoa (A.asInt (A.cell (A.lit [[.int E],[.int (A.dz c1)],[.int (A.dz c2)],[.int (A.len v)],[.int (A.len g)]]) (br (i+1)) 0)):=a;rw[<- a]at j;cbv;refine X.call (vI hr (.inr rfl) yL λr2 m=>?_);cbv;refine X.call (O1 (c:=32) m (.inr rfl) yL λM o=>?_);have Q:M= .list (dX (l++(ns.take (i+1+1)).flatMap pH)):=by rw[b,pH,<-a,<-bN,<-bN];exact o
    clear a m o;cbv;repeat' (first|apply bw|exact zf|(intro J;cbv)|apply bG)
    all_goals try exact I
    exact⟨(i+1+1,M),⟨yP,Q⟩,yP,[0,1,5,3],rfl,yc⟩
   ·have hr:r= .list (dX (l++ns.flatMap pH)):=by
     have h6:i+1=5:=by have h1:A.lt (br (i+1)) (A.len (A.lit [[.int E],[.int (A.dz c1)],[.int (A.dz c2)],[.int (A.len v)],[.int (A.len g)]]))=false:=h1;rw[H,X.a,ik]at h1;have:=of_decide_eq_false h1;simp only[bz]at this;omega
     rw[hr,h6,cG yO]
    clear h1 hi hd hL H aa;cbv;refine X.call (vI (s:=c1) hr (.inr rfl) (by rw[t1];simp only[bE];omega) λW a=>?_);cbv;refine X.call (vI (s:=c2) a (.inr rfl) (by rw[t1,t2];simp only[bE];omega) λr2 m=>?_);obtain⟨w,hw⟩:∃w,w=l++ns.flatMap pH++c1++c2:=⟨_,rfl⟩;rw[<- hw]at m;have ay:w.length=l.length+(ns.flatMap pH).length+t.m.length+t.n.length:=by rw[hw,t1,t2];simp[eR]
    have h:∀r,r= .list (dX (w++Ty.qQ t.ar++Ty.tl t.fl))->K (.tup []) [.box [.box 0 0,.row 5 2],.dead,.row 5 r true]:=λr e=>h r (by rw[e,hw,t1,t2];simp only[bN]);clear hr a hw;cbv;refine lP X (λy=>y.1<=N/\y.2= .list (dX (w++Ty.qQ (t.ar.take y.1)))) (λy=>N-y.1) (0,r2) ⟨bD _,by simpa[Ty.qQ]using m⟩ [0,1,5,3] (λ(y:Nat×D)=>⟨[(48,.int .i64 y.1),(47,.int .i64 (A.len v)),(46,.lst 29 v),(3,.box 3 0),(0,.box 0 0)],[.box [.box 0 0,.row 5 2],.dead,.row 5 y.2 true,.box [.int .i64 E,.str c1,.str c2,.lst 29 v,.lst 42 g]]⟩) ?_;clear m;rintro⟨k,r⟩ ⟨hk,hr⟩;simp only at hk hr;cbv;constructor<;>intro h1
    ·have h5:k<t.ar.length:=lY X.a z h1;have k1:=gI X.a ai h5;have G:=iX X.a ai h5;have I:=jX X.a h5;have F:t.ar[k]∈t.dP:=by simp[Ty.dP]
     have b:=Dn h5;have j:=Hh (l:=t.ar) (i:=k+1);rw[b,bE]at j;clear h1;cbv;refine⟨G,?_⟩;refine X.call (ih _ F (gP ab _ F) (λu hu=>ae u (lU F hu)) hr (.inr rfl) k1 (by rw[bE];omega) λM o=>?_);have Q:M= .list (dX (w++Ty.qQ (t.ar.take (k+1)))):=by rw[b,<-bN];exact o
     cbv;repeat' (first|apply bw|exact zf|(intro J;cbv)|apply bG)
     all_goals try exact I
     exact⟨(k+1,M),⟨yP,Q⟩,yP,[0,1,5,3],rfl,yc⟩
    have h5:k=N:=gY X.a z h1;rw[h5,V,bF]at hr;clear h1 hk h5;cbv;refine lP X (λy=>y.1<=O/\y.2= .list (dX (w++Ty.qQ t.ar++Ty.tl (t.fl.take y.1)))) (λy=>O-y.1) (0,r) ⟨bD _,by simpa[Ty.tl]using hr⟩ [0,1,2,3] (λ(y:Nat×D)=>⟨[(59,.int .i64 y.1),(58,.int .i64 (A.len g)),(57,.lst 42 g),(3,.box 3 0),(0,.box 0 0)],[.box [.box 0 0,.row 5 2],.dead,.row 5 y.2 true,.box [.int .i64 E,.str c1,.str c2,.lst 29 v,.lst 42 g]]⟩) ?_;clear hr;rintro⟨k,r⟩ ⟨hk,hr⟩;simp only at hk hr;cbv;constructor<;>intro h1
    ·have h5:k<t.fl.length:=lY X.a B h1;have k1:=kE X.a U h5;obtain⟨k2,k3⟩:=wF X.a U h5;have G:=iX X.a U h5;have I:=jX X.a h5;have F:t.fl[k].t∈t.dP:=by simp only[Ty.dP,bJ,bT];exact .inr ⟨_,bx h5,rfl⟩
     have b:=Dq h5;have j:=Hk (l:=t.fl) (i:=k+1);have R:t.fl[k].wr=Lib.itoa (br (A.bL (A.cell g (br k) 0)).length)++Lib.formatBool (A.asBool (A.cell g (br k) 6))++A.bL (A.cell g (br k) 0)++t.fl[k].t.wr:=by rw[k2,k3];generalize t.fl[k]=f;cases f;rfl
     rw[b,R]at j;rw[R]at b;simp only[bE]at j;have ag:A.dz (A.bL (A.cell g (br k) 0))=br (A.bL (A.cell g (br k) 0)).length:=yX;have af: -9223372036854775808<=A.dz (A.bL (A.cell g (br k) 0))/\A.dz (A.bL (A.cell g (br k) 0))<=9223372036854775807:=by obtain⟨sl,ah⟩:∃sl,sl=(A.bL (A.cell g (br k) 0)).length:=⟨_,rfl⟩;have av:sl<=4294967296:=yO;rw[ag,<-ah];simp only[bz];omega
     clear h1 k2 k3 R;cbv;refine⟨G,?_⟩;refine X.call (BT af.1 af.2 λW a=>?_);have a:W=Lib.itoa (br (A.bL (A.cell g (br k) 0)).length):=by rw[<- ag];exact a
     rw[<- a]at j b;cbv;refine X.call (vI hr (.inr rfl) yL λr2 m=>?_);cbv;refine X.call (Ud λM o=>?_);have o:M=Lib.formatBool (A.asBool (A.cell g (br k) 6)):=o;rw[<- o]at j b;cbv;refine X.call (vI m (.inr rfl) yL λr4 ac=>?_);cbv;refine X.call (vI (s:=A.bL (A.cell g (br k) 0)) ac (.inr rfl) (by simp only[bE];omega) λr5 ad=>?_);cbv;refine X.call (ih _ F (gP ab _ F) (λu hu=>ae u (lU F hu)) ad (.inr rfl) k1 (by simp only[bE];omega) λr6 P=>?_);have Q:r6= .list (dX (w++Ty.qQ t.ar++Ty.tl (t.fl.take (k+1)))):=by rw[b];simp only[<- bN];(try simp only[<- bN]at P);exact P
     clear a m o ac ad P;refine p1 ?_;exact⟨(k+1,r6),⟨yP,Q⟩,yP,[0,1,8,3],rfl,yc⟩
    ·have h5:k=O:=gY X.a B h1;rw[h5,T,bF]at hr;have q:=h r hr;cbv;exact q
end Go.VC.cK
namespace Go.VC
def RL(t:Ty):t.wr≠[]:=by cases t;rw[Ty.wr,pH];simp
abbrev Ji(d:Int)(a1 a2:S)(a3 a4:D)(b:Int)(b1 b2:S)(a c:D):PV:=.agg [.int .i64 d,.str a1,.str a2,.lst 29 a3,.lst 42 a4,.int .i64 b,.str b1,.str b2,.lst 29 a,.lst 42 c]
end Go.VC
namespace Go.VC.cK
open Go Go.VC Go.Proofs Go.Shelf
def Vh:eE:={tt:=tt,n:=11,own:=[3],live:=[65,66]}
def ZS{s t:Ty}(hs:Ty.le 4294967295 s)(o:Ty.le 4294967295 t)(e:∀u∈s.all,0<=u.k/\u.k<=10)(g:∀u∈t.all,0<=u.k/\u.k<=10)(hl:s.wr.length+t.wr.length<=4294967296)
 {i:Int}{a1 a2:S}{a3 a4:D}{j:Int}{b1 b2:S}{n m:D} (ha:cD s i a1 a2 a3 a4) (hb:cD t j b1 b2 n m) {K:PV->List Ob->Prop} (h:∀r,r=s.wr++t.wr->K (.str r) []):
 FT 38 [] [Ji i a1 a2 a3 a4 j b1 b2 n m] K:=by
 refine en Vh Tryz.func38 λA C L X=>?_;cbv;refine X.call (XV s hs e (l:=[]) rfl (.inl rfl) ha yQ λp c=>?_);cbv;refine X.call (XV t o g c (.inr rfl) hb (yU hl) λr2 b=>?_);obtain⟨key,a⟩:∃k,k=s.wr++t.wr:=⟨_,rfl⟩;have b:r2= .list (dX key):=by rw[a];simpa using b
 have d:key≠[]:=by rw[a];simp[RL]
 have f:key.length<=4294967296:=by rw[a];simpa using hl
 have q:=h key a;clear c a h;cbv;refine X.call (ZE d f b rfl ?_);cbv;exact q
end Go.VC.cK
namespace Go.VC
abbrev fO(b a c d:D):List Ob:=[.box [.box 1 0],.box [.lst 51 b,.lst 56 a,.mp 2,.row 9 3],.map .str 4 c,.row 9 d true]
abbrev Us(b a c d:D):List Ob:=[.box [.box 1 0],.box [.lst 51 b,.lst 56 a,.mp 2,.row 9 4],.map .str 4 c,.dead,.row 9 d true]
end Go.VC
namespace Go.VC.cK
open Go Go.VC Go.Proofs
def Vg:eE:={tt:=tt,n:=31,n0:=4,view:=[10],own:=[28],live:=[0],xz:=[22]}
def V9{r t g d:D}{m:List (S×Bool)}{tr:List S}(u:g=bH dY m)(hd:d=bH encS tr)(E:tr.length<=4294967290){k:Nat}{x:Int}(F:x=br k)(hk:k<=tr.length)(o:0<tr.length)
 {K:PV->List Ob->Prop} (h:∀p j,p=bH dY (py m (tr.drop k))->j=bH encS (tr.take k)->K (.tup []) (Us r t p j)):
 FT 39 (fO r t g d) [.int .i64 x,.box 0 0] K:=by
 subst F;refine el Vg Tryz.func39 λA C L X=>?_;obtain⟨n,w⟩:∃n,n=tr.length:=⟨_,rfl⟩;have c:Std.len d=br n:=by rw[hd,cT,w];rfl
 have h0:A.idx 0 (A.len d):=by rw[X.a,hd];exact cP (i:=0) o
 have s:A.fU (br k) (A.len d):=by rw[X.a,c];simp only[SD];omega
 refine p1 ?_;refine lP X (λy=>y.1<=n-k/\y.2=bH dY (py m ((tr.drop k).take y.1))) (λy=>n-k-y.1) (0,g) ⟨bD _,by simp[py,u]⟩ [0,1,2,3,4] (λ(y:Nat×D)=>⟨[(12,.int .i64 y.1),(11,.int .i64 (A.sub (A.len d) (br k))),(10,.gp 9 4 (br k) 1000003),(1,.box 0 0),(0,.int .i64 (br k))],[.box [.box 1 0],.box [.lst 51 r,.lst 56 t,.mp 2,.row 9 4],.map .str 4 y.2,.dead,.row 9 d true]⟩) ?_;rintro⟨i,g⟩ ⟨z,e⟩;simp only at z e;cbv;constructor<;>intro h1
 ·have h5:i<n-k:=by obtain rfl:=X.a;simp only[c,SD]at h1;omega
  have h6:k+i<tr.length:=yO;have B:A.idx (br i) (A.sub (A.len d) (br k)):=by rw[X.a,c];exact⟨yL,by show _<br n-br k;simp only[bz];omega⟩
  have v:A.inr .i64 (A.add (br i) 1):=by rw[X.a];exact ek (n:=n) yO yO
  have e1:A.bL (A.cell d (A.add (br k) (br i)) 0)=tr[k+i]:=by have:A.add (br k) (br i)=br (k+i):=yX;rw[this];exact jR X.a hd h6
  have e2:A.Gn g (.str (A.bL (A.cell d (A.add (br k) (br i)) 0)))=bH dY (py m ((tr.drop k).take (i+1))):=by
   rw[e1,X.a,e,MG,<-GR]
   congr 2
   rw[bX yQ];simp
  clear h1;refine p1 ?_;exact⟨(i+1,_),⟨yP,e2⟩,yP,[0,1,2,3,4],rfl,yc⟩
 ·have h5:i=n-k:=by obtain rfl:=X.a;simp only[c,SD]at h1;omega
  have e3:A.part d 0 (br k)=bH encS (tr.take k):=by rw[X.a,hd];have:=mi (f:=encS) (l:=tr) (a:=0) (b:=k);simpa using this
  have q:=h g _ (by rw[e,h5,cG yQ]) e3;clear h1;cbv;repeat' (first|apply bw|exact zf|(intro J;cbv)|apply bG)
  all_goals first|exact h0|exact s|exact q|skip
  all_goals trace_state
end Go.VC.cK
namespace Go.VC
def uT(i:IF)(g:List S)(t:Ty):Bool:=t.k==10&&(match fu i t.m t.n with|some e=>g.contains e|none=>false)
def iz(i:IF)(n:S):List U:=((ox i n).getD TE.zero).lower.fG++((ox i n).getD TE.zero).upper.fG
def qj(i:IF)(n e:S):Prop:=∃u∈iz i n,fu i u.1 u.2=some e
def xT:TE.zero.lower.fG++TE.zero.upper.fG=[]:=by simp[TE.zero,Ty.zero,Ty.fG,Ty.AN,Ty.AO]
end Go.VC
namespace Go.VC.cK
open Go Go.VC Go.Proofs
def TH{i:IF}(x:i.ok){m:List (S×TE)}(y:TM m i){d n k:D}(hd:d=bH dC [i])(s:n=bH (fQ gv) m){g:List S}(r:k=bH encS g)(c:g.length<=4294967295)
 {t:Ty}{a:Int}{c1 c2:S}{l o:D}{K:PV->List Ob->Prop} (q:cD t a c1 c2 l o) (h:∀b,b=uT i g t->K (.bool b) []):
 FT 264 [] [.agg [.lst 51 d,.dmp 45 n,.undef],df a c1 c2 l o,.lst 9 k] K:=by
 obtain⟨u,v,p,B,w⟩:=q;unfold uT at h;rw[<- u,<-v,<-p]at h;refine en (cf 29) Tryz.func264 λA C L X=>?_;have Z:=mI X.a;cbv;refine X.call (Q3 x y hd s λe b hb z=>?_);have j:b=false->fu i c1 c2=none:=λh=>by rw[h]at hb;simpa using hb.symm
 cbv;repeat' (first|apply bw|exact zf|(intro J;cbv)|apply bG|(refine X.call (JL r c λb2 f=>?_);cbv))
 ·have e1:A.eq a 10=true:=yA;have e2:b=true:=yA;rw[Z]at e1;refine h _ ?_;rw[e1,z e2,f];rfl
 ·have e1:A.eq a 10=true:=yA;have e2:b=false:=yA;rw[Z]at e1;refine h _ ?_;rw[j e2,fb]
 ·have e1:A.eq a 10=false:=yA;rw[Z]at e1;refine h _ ?_;rw[e1,fH]
end Go.VC.cK
namespace Go.VC
section
variable {A:qC}{i:IF}{us:List U}{l:List S}
def Pc(ha:A=Std){a:D}{m:List (S×TE)}(b:a=bH (fQ gv) m){k:S}{x:TE}(h:ia m k=some x):
 oA x (A.bL (A.fI a (.str k) 0)) (A.fI a (.str k) 1) (A.asInt (A.fI a (.str k) 2)) (A.bL (A.fI a (.str k) 3)) (A.bL (A.fI a (.str k) 4)) (A.fI a (.str k) 5) (A.fI a (.str k) 6) (A.asInt (A.fI a (.str k) 7)) (A.bL (A.fI a (.str k) 8)) (A.bL (A.fI a (.str k) 9)) (A.fI a (.str k) 10) (A.fI a (.str k) 11):=by
 subst ha b;simp only[vG h,pt];exact⟨rfl,rfl,⟨rfl,rfl,rfl,rfl,rfl⟩,rfl,rfl,rfl,rfl,rfl⟩
def Le(ha:A=Std){t u:Ty}{c2:Int}{e j:S}{g h:D}{d:Int}{f c:S}{a b:D}(k:cD t c2 e j g h)(hu:cD u d f c a b):
 A.lit [[.int c2,.str e,.str j,g,h],[.int d,.str f,.str c,a,b]]=bH cE [t,u]:=by
 subst ha;obtain⟨rfl,rfl,rfl,rfl,rfl⟩:=k;obtain⟨rfl,rfl,rfl,rfl,rfl⟩:=hu;rw[show bH cE [t,u]=D.list [cE t,cE u]from rfl,dI,dI];rfl
def iV(i:IF)(us:List U)(l:List S):Prop:=(∀e,e∈l↔∃u∈us,fu i u.1 u.2=some e)/\l.length<=us.length
def iV.nil(i:IF):iV i [] []:=⟨yS,yS⟩
def iV.app{vs ws:List U}{k:List S}(h:iV i us l)(hk:iV i vs k)(b:∀u,u∈vs↔u∈ws)(hl:vs.length<=ws.length):iV i (us++ws) (l++k):=by
 refine⟨λe=>?_,?_⟩
 ·rw[bJ,h.1,hk.1];constructor
  ·rintro(⟨u,hu,a⟩|⟨u,hu,a⟩)
   ·exact⟨u,eu _ hu,a⟩
   ·exact⟨u,dV _ ((b u).1 hu),a⟩
  ·rintro⟨u,hu,a⟩;rcases bJ.1 hu with hu|hu
   ·exact .inl ⟨u,hu,a⟩
   ·exact .inr ⟨u,(b u).2 hu,a⟩
 ·have:=h.2;have:=hk.2;simp only[bE];omega
def iV.step{u:U}(h:iV i us l):(∀e,fu i u.1 u.2=some e->iV i (us++[u]) (l++[e]))/\(fu i u.1 u.2=none->iV i (us++[u]) l):=by
 refine⟨λe c=>⟨λx=>?_,?_⟩,λd=>⟨λx=>?_,?_⟩⟩
 ·rw[bJ,h.1,cU];constructor
  ·rintro(⟨v,a,b⟩|rfl)
   ·exact⟨v,eu _ a,b⟩
   ·exact⟨u,yS,c⟩
  ·rintro⟨v,a,b⟩;rcases bJ.1 a with a|a
   ·exact .inl ⟨v,a,b⟩
   ·rw[cU]at a;subst a;rw[c]at b;cases b;exact .inr rfl
 ·have:=h.2;simp only[bE,eg];omega
 ·rw[h.1];constructor
  ·rintro⟨v,a,b⟩;exact⟨v,eu _ a,b⟩
  ·rintro⟨v,a,b⟩;rcases bJ.1 a with a|a
   ·exact⟨v,a,b⟩
   ·rw[cU]at a;subst a;rw[d]at b;cases b
 ·have:=h.2;simp only[bE,eg];omega
end
end Go.VC
namespace Go.VC.cK
open Go Go.VC Go.Proofs
def Su:eE:={tt:=tt,n:=51,own:=[5]}
def TJ{i:IF}(hi:i.ok)(fL:∀x∈i.types,x.lower.size<=1048576/\x.upper.size<=1048576){m:List (S×TE)}(hm:TM m i){d G:D}(hd:d=bH dC [i])(hT:G=bH (fQ gv) m){n:S}{K:PV->List Ob->Prop}
 (h:∀l r,r=bH encS l->iV i (iz i n) l->K (.row 9 0) [.row 9 r true]):
 FT 263 [] [.agg [.lst 51 d,.dmp 45 G,.undef],.str n] K:=by
 refine eo Su Tryz.func263 λA C L X=>?_;have Q:A.pb G (.str n)=(ox i n).isSome:=by rw[X.a,hT,pD,hm.get]
 have af:∀x,ox i n=some x->ia m n=some x:=λx hx=>by rw[hm.get,hx]
 cbv;constructor<;>intro h1
 ·rw[Q]at h1;obtain⟨x,hx⟩:=dy.1 h1;have kx:=Pc X.a hT (af x hx);have al:=kx.2.2.1;have aq:=kx.2.2.2;have ah:x∈i.types:=di hx;have au:Ty.le 4294967295 x.lower/\x.lower.size<=1048576:=⟨(hi.t x ah).lo,(fL x ah).1⟩;have am:Ty.le 4294967295 x.upper/\x.upper.size<=1048576:=⟨(hi.t x ah).up,(fL x ah).2⟩;have F:iz i n=[x.lower,x.upper].flatMap Ty.fG:=by rw[iz,hx];simp
  clear h1 Q af;obtain⟨H,z⟩:∃H,H=A.lit [[.int (A.asInt (A.fI G (.str n) 2)),.str (A.bL (A.fI G (.str n) 3)),.str (A.bL (A.fI G (.str n) 4)),A.fI G (.str n) 5,A.fI G (.str n) 6],[.int (A.asInt (A.fI G (.str n) 7)),.str (A.bL (A.fI G (.str n) 8)),.str (A.bL (A.fI G (.str n) 9)),A.fI G (.str n) 10,A.fI G (.str n) 11]]:=⟨_,rfl⟩;have B:H=bH cE [x.lower,x.upper]:=z.trans (Le X.a al aq);obtain⟨ts,O⟩:∃ts,ts=[x.lower,x.upper]:=⟨_,rfl⟩;have aF:ts.length=2:=by rw[O];rfl
  have E:∀t∈ts,Ty.le 4294967295 t/\t.size<=1048576:=by rw[O];intro t R;simp at R;rcases R with rfl|rfl;exact au;exact am
  rw[<- O]at B F;obtain⟨p,M,g⟩:=lenOf B;cbv
  refine X.iC (λ(y:Nat×D)=>⟨[(23,.int .i64 y.1),(22,.int .i64 (A.len H)),(21,.lst 29 H),(5,.row 9 1),(2,.box 0 0)],[.box [.lst 51 d,.dmp 45 G,.undef],.row 9 y.2 true]⟩)
   (λy=>y.1<=p/\∃l,y.2=bH encS l/\iV i ((ts.take y.1).flatMap Ty.fG) l) (λy=>p-y.1) (0,.list []) ⟨bD _,[],rfl,iV.nil i⟩ ?_ ?_
  ·refine⟨[0,1],rfl,?_⟩
   (cbv;repeat' apply bw);all_goals try first|trivial|rfl|(rw[X.a];rfl)
   all_goals first|exact z.symm|exact congrArg A.len z.symm
  rintro⟨k,r⟩ ⟨hk,l,hr,hl⟩;simp only at hk hr hl;cbv;constructor<;>intro h1
  ·have h5:k<ts.length:=lY X.a g h1;have k1:=gI X.a B h5;have az:=iX X.a B h5;have ax:=jX X.a h5;obtain⟨ae,ac⟩:=E _ (bx h5);cbv;repeat' (first|apply bw|exact zf|(intro J;cbv)|apply bG)
   any_goals exact az
   refine X.call (V7 ae (bR ac yD) k1 λlu T N an ad=>?_);have aG:=hY ts[k];have ak:lu.length<=ts[k].fG.length:=fm (tX an) λu hu=>(ad u).1 hu
   have aE:((ts.take k).flatMap Ty.fG).length<=2097152:=by
    rw[n2]
    have:∀q:List Ty,(∀t∈q,t.size<=1048576)->(q.map λt=>t.fG.length).sum<=q.length*1048576:=by
     intro q;induction q with
     |nil=>simp
     |cons t q ih=>intro hq;have a:=ih λt R=>hq t (by simp[R]);have b:=hY t;have c:=hq t yS;simp only[bO,ch,bS];omega
    have e:=this (ts.take k) λt R=>(E t (ue R)).2;have f:(ts.take k).length<=2:=by rw[cZ];omega
    omega
   have aH:=hl.2;obtain⟨w,P,o⟩:=lenOf N;clear h1;cbv
   refine X.iC (λ(y:Nat×D)=>⟨[(30,.int .i64 y.1),(29,.int .i64 (A.len T)),(28,.lst 137 T),(23,.int .i64 k),(22,.int .i64 (A.len H)),(21,.lst 29 H),(5,.row 9 1),(2,.box 0 0)],[.box [.lst 51 d,.dmp 45 G,.undef],.row 9 y.2 true]⟩)
    (λy=>y.1<=w/\∃l2,y.2=bH encS (l++l2)/\iV i (lu.take y.1) l2) (λy=>w-y.1) (0,r) ⟨bD _,[],by rw[cA];exact hr,iV.nil i⟩ ?_ ?_
   ·exact⟨[0,1],rfl,yc⟩
   rintro⟨j,r2⟩ ⟨hj,l2,s,v⟩;simp only at hj s v;cbv;constructor<;>intro h1
   ·have h6:j<lu.length:=lY X.a o h1;obtain⟨ao,ap⟩:=PY X.a N h6;have aj:=iX X.a N h6;have ag:=jX X.a h6;have aa:=v.2;have ay:l2.length<=2097152:=by rw[cZ]at aa;omega
    have I:=v.step (u:=lu[j]);rw[<- bX h6]at I;have av:∀e:S,A.fU (A.add (A.len r2) (A.len (A.lit [[.str e]]))) 4294967296:=by intro e;rw[X.a,s];simp only[SD,bQ];omega
    have V:∀e:S,A.app r2 (A.lit [[.str e]])=bH encS (l++(l2++[e])):=by intro e;rw[X.a,s,<-bN];exact cx (k:=[e])
    clear h1;cbv;repeat' (first|apply bw|exact zf|(intro J;cbv)|apply bG)
    any_goals exact aj
    refine X.call (Q3 hi hm hd hT λe b hb he=>?_);have hb:b=(fu i (A.bL (A.cell T (br j) 0)) (A.bL (A.cell T (br j) 1))).isSome:=hb;have he:b=true->fu i (A.bL (A.cell T (br j) 0)) (A.bL (A.cell T (br j) 1))=some e:=he;rw[ao,ap]at hb he;cbv;repeat' (first|apply bw|exact zf|(intro J;cbv)|apply bG)
    any_goals exact ag
    any_goals exact av e
    ·have e2:b=true:=yA;exact⟨(j+1,_),⟨yP,l2++[e],V e,I.1 e (he e2)⟩,yP,[0,1],rfl,yc⟩
    ·have e2:b=false:=yA;rw[e2]at hb;exact⟨(j+1,r2),⟨yP,l2,s,I.2 (yU hb.symm)⟩,yP,[0,1],rfl,yc⟩
   ·have h6:j=w:=gY X.a o h1;rw[h6,P,bF]at v;have ab:iV i ((ts.take (k+1)).flatMap Ty.fG) (l++l2):=by rw[gf h5];exact hl.app v ad ak
    cbv;repeat' (first|apply bw|exact zf|(intro J;cbv)|apply bG)
    any_goals exact ax
    refine⟨(k+1,r2),⟨yP,l++l2,s,ab⟩,yP,[0,1],rfl,?_⟩;exact yc
  ·have h5:k=p:=gY X.a g h1;rw[h5,M,bF,<-F]at hl;cbv;exact h l r hr hl
 ·rw[Q]at h1;have hx:ox i n=none:=yU h1;obtain⟨x,W⟩:∃x,x=TE.zero:=⟨_,rfl⟩;have al:cD x.lower 0 [] [] (.list []) (.list []):=by rw[W];exact⟨rfl,rfl,rfl,rfl,rfl⟩
  have aq:cD x.upper 0 [] [] (.list []) (.list []):=by rw[W];exact⟨rfl,rfl,rfl,rfl,rfl⟩
  have au:Ty.le 4294967295 x.lower/\x.lower.size<=1048576:=by rw[W];exact⟨mY.lo,yD⟩
  have am:Ty.le 4294967295 x.upper/\x.upper.size<=1048576:=by rw[W];exact⟨mY.up,yD⟩
  have F:iz i n=[x.lower,x.upper].flatMap Ty.fG:=by rw[iz,hx,W];simp
  clear h1 Q af;obtain⟨H,z⟩:∃H,H=A.lit [[.int 0,.str [],.str [],.list [],.list []],[.int 0,.str [],.str [],.list [],.list []]]:=⟨_,rfl⟩;have B:H=bH cE [x.lower,x.upper]:=z.trans (Le X.a al aq);obtain⟨ts,O⟩:∃ts,ts=[x.lower,x.upper]:=⟨_,rfl⟩;have aF:ts.length=2:=by rw[O];rfl
  have E:∀t∈ts,Ty.le 4294967295 t/\t.size<=1048576:=by rw[O];intro t R;simp at R;rcases R with rfl|rfl;exact au;exact am
  rw[<- O]at B F;obtain⟨p,M,g⟩:=lenOf B;cbv
  refine X.iC (λ(y:Nat×D)=>⟨[(23,.int .i64 y.1),(22,.int .i64 (A.len H)),(21,.lst 29 H),(5,.row 9 1),(2,.box 0 0)],[.box [.lst 51 d,.dmp 45 G,.undef],.row 9 y.2 true]⟩)
   (λy=>y.1<=p/\∃l,y.2=bH encS l/\iV i ((ts.take y.1).flatMap Ty.fG) l) (λy=>p-y.1) (0,.list []) ⟨bD _,[],rfl,iV.nil i⟩ ?_ ?_
  ·refine⟨[0,1],rfl,?_⟩
   (cbv;repeat' apply bw);all_goals try first|trivial|rfl|(rw[X.a];rfl)
   all_goals first|exact z.symm|exact congrArg A.len z.symm
  rintro⟨k,r⟩ ⟨hk,l,hr,hl⟩;simp only at hk hr hl;cbv;constructor<;>intro h1
  ·have h5:k<ts.length:=lY X.a g h1;have k1:=gI X.a B h5;have az:=iX X.a B h5;have ax:=jX X.a h5;obtain⟨ae,ac⟩:=E _ (bx h5);refine p1 ?_;refine X.call (V7 ae (bR ac yD) k1 λlu T N an ad=>?_);have aG:=hY ts[k];have ak:lu.length<=ts[k].fG.length:=fm (tX an) λu hu=>(ad u).1 hu
   have aE:((ts.take k).flatMap Ty.fG).length<=2097152:=by
    rw[n2]
    have:∀q:List Ty,(∀t∈q,t.size<=1048576)->(q.map λt=>t.fG.length).sum<=q.length*1048576:=by
     intro q;induction q with
     |nil=>simp
     |cons t q ih=>intro hq;have a:=ih λt R=>hq t (by simp[R]);have b:=hY t;have c:=hq t yS;simp only[bO,ch,bS];omega
    have e:=this (ts.take k) λt R=>(E t (ue R)).2;have f:(ts.take k).length<=2:=by rw[cZ];omega
    omega
   have aH:=hl.2;obtain⟨w,P,o⟩:=lenOf N;clear h1;cbv
   refine X.iC (λ(y:Nat×D)=>⟨[(30,.int .i64 y.1),(29,.int .i64 (A.len T)),(28,.lst 137 T),(23,.int .i64 k),(22,.int .i64 (A.len H)),(21,.lst 29 H),(5,.row 9 1),(2,.box 0 0)],[.box [.lst 51 d,.dmp 45 G,.undef],.row 9 y.2 true]⟩)
    (λy=>y.1<=w/\∃l2,y.2=bH encS (l++l2)/\iV i (lu.take y.1) l2) (λy=>w-y.1) (0,r) ⟨bD _,[],by rw[cA];exact hr,iV.nil i⟩ ?_ ?_
   ·exact⟨[0,1],rfl,yc⟩
   rintro⟨j,r2⟩ ⟨hj,l2,s,v⟩;simp only at hj s v;cbv;constructor<;>intro h1
   ·have h6:j<lu.length:=lY X.a o h1;obtain⟨ao,ap⟩:=PY X.a N h6;have aj:=iX X.a N h6;have ag:=jX X.a h6;have aa:=v.2;have ay:l2.length<=2097152:=by rw[cZ]at aa;omega
    have I:=v.step (u:=lu[j]);rw[<- bX h6]at I;have av:∀e:S,A.fU (A.add (A.len r2) (A.len (A.lit [[.str e]]))) 4294967296:=by intro e;rw[X.a,s];simp only[SD,bQ];omega
    have V:∀e:S,A.app r2 (A.lit [[.str e]])=bH encS (l++(l2++[e])):=by intro e;rw[X.a,s,<-bN];exact cx (k:=[e])
    clear h1;refine p1 ?_;refine X.call (Q3 hi hm hd hT λe b hb he=>?_);have hb:b=(fu i (A.bL (A.cell T (br j) 0)) (A.bL (A.cell T (br j) 1))).isSome:=hb;have he:b=true->fu i (A.bL (A.cell T (br j) 0)) (A.bL (A.cell T (br j) 1))=some e:=he;rw[ao,ap]at hb he;cbv;repeat' (first|apply bw|exact zf|(intro J;cbv)|apply bG)
    any_goals exact ag
    any_goals exact av e
    ·have e2:b=true:=yA;exact⟨(j+1,_),⟨yP,l2++[e],V e,I.1 e (he e2)⟩,yP,[0,1],rfl,yc⟩
    ·have e2:b=false:=yA;rw[e2]at hb;exact⟨(j+1,r2),⟨yP,l2,s,I.2 (yU hb.symm)⟩,yP,[0,1],rfl,yc⟩
   ·have h6:j=w:=gY X.a o h1;rw[h6,P,bF]at v;have ab:iV i ((ts.take (k+1)).flatMap Ty.fG) (l++l2):=by rw[gf h5];exact hl.app v ad ak
    refine p1 ?_;exact⟨(k+1,r2),⟨yP,l++l2,s,ab⟩,yP,[0,1],rfl,yc⟩
  ·have h5:k=p:=gY X.a g h1;rw[h5,M,bF,<-F]at hl;cbv;exact h l r hr hl
end Go.VC.cK
namespace Go.VC
inductive oP (i:IF):S->S->Prop
 |one {a b:S} (h:qj i a b):oP i a b
 |more {a b c:S} (h:oP i a b) (k:qj i b c):oP i a c
def oP.trans{i:IF}{a b c:S}(h:oP i a b)(k:oP i b c):oP i a c:=by
 induction k with
 |one e=>exact .more h e
 |more _ k' d=>exact .more d k'
def Jf{i:IF}{m n e:S}(h:fu i m n=some e):(ox i e).isSome=true:=by
 unfold fu at h;split at h
 ·split at h
  ·rename_i hs;cases h;exact hs
  ·cases h
 ·split at h
  ·rename_i hs;cases h;exact hs
  ·cases h
 ·cases h
def CS{i:IF}{a b:S}(h:qj i a b):(ox i b).isSome=true:=by obtain⟨u,_,hu⟩:=h;exact Jf hu
def oP.has{i:IF}{a b:S}(h:oP i a b):(ox i b).isSome=true:=by
 cases h with
 |one h=>exact CS h
 |more _ k=>exact CS k
def P1{i:IF}{n:S}(h:(ox i n).isSome=true):n∈i.types.map (·.name):=by obtain⟨x,a⟩:=dy.1 h;have h1:=di a;have J:=List.find?_some a;simp at J;exact bT.2 ⟨x,h1,J⟩
def kK{i:IF}{L:List S}(a:L.Nodup)(h:∀s∈L,(ox i s).isSome=true):L.length<=i.types.length:=by have:=fm a λs hs=>P1 (h s hs);simpa using this
structure KS (m:List (S×Bool)) (p:S->Prop):Prop where
 nd:(m.map (·.1)).Nodup
 mem:∀s,s∈m.map (·.1)↔p s
 tr:∀x∈m,x.2=true
def qS(i:IF)(n:S):Nat:=(iz i n).length
def mq(i:IF):Nat:=(i.types.map λx=>x.lower.size+x.upper.size).sum
def Iw(l:List TE)(n:S):(((l.find? λx=>x.name==n).getD TE.zero).lower.fG++((l.find? λx=>x.name==n).getD TE.zero).upper.fG).length=((l.find? λx=>x.name==n).map λx=>(x.lower.fG++x.upper.fG).length).getD 0:=by
 cases l.find? λx=>x.name==n with
 |some x=>rfl
 |none=>rw[qD,xT];rfl
def DG:∀(l:List TE)(f:TE->Nat)(L:List S),L.Nodup->(L.map λn=>((l.find? λx=>x.name==n).map f).getD 0).sum<=(l.map f).sum
 |[],f,L,_=>by
  have:∀L:List S,(L.map λn=>((([]:List TE).find? λx=>x.name==n).map f).getD 0).sum=0:=by
   intro L;induction L with
   |nil=>rfl
   |cons s L d=>rw[bO,ch,d];rfl
  rw[this];exact bD _
 |x::l,f,L,c=>by
  have d:=DG l f L c
  have key:(L.map λn=>(((x::l).find? λy=>y.name==n).map f).getD 0).sum<=f x+(L.map λn=>((l.find? λy=>y.name==n).map f).getD 0).sum:=by
   clear d;induction L with
   |nil=>simp
   |cons s L b=>
    rw[cn]at c;have b:=b c.2;simp only[bO,ch];by_cases hs:x.name=s
    ·have hb:(x.name==s)=true:=yU hs
     have a:∀n∈L,(((x::l).find? λy=>y.name==n).map f).getD 0=((l.find? λy=>y.name==n).map f).getD 0:=by
      intro n g;have:(x.name==n)=false:=by rw[beq_eq_false_iff_ne];intro e;exact c.1 (by rw[<- hs,e];exact g)
      rw[cB,this]
     rw[hJ a,cB,hb];simp only[cu,dQ];omega
    ·have hb:(x.name==s)=false:=yU hs;rw[cB,hb];simp only;omega
  simp only[bO,ch];omega
def Dw(i:IF){L:List S}(d:L.Nodup):(L.map (qS i)).sum<=mq i:=by
 have h1:(L.map (qS i))=L.map λn=>((i.types.find? λx=>x.name==n).map λx=>(x.lower.fG++x.upper.fG).length).getD 0:=by refine hJ λn _=>?_;exact Iw i.types n
 rw[h1];refine bR (DG i.types _ L d) ?_;unfold mq;generalize i.types=l;induction l with
 |nil=>simp
 |cons x l c=>have a:=hY x.lower;have b:=hY x.upper;simp only[bO,ch,bE]at c ⊢;omega
def Dx(i:IF)(n:S):qS i n<=mq i:=by have:=Dw i (L:=[n]) yS;simpa using this
structure tY (i:IF) (n:S) (L W:List S):Prop where
 nd:L.Nodup
 xh:∀s∈L,oP i n s
 Pt:∀s∈W,oP i n s
 st:∀e,qj i n e->e∈L\/e∈W
 cl:∀s∈L,∀e,qj i s e->e∈L\/e∈W
 len:W.length<=qS i n+(L.map (qS i)).sum
def iV.dir{i:IF}{n:S}{l:List S}(h:iV i (iz i n) l):∀e,e∈l↔qj i n e:=h.1
def tY.start{i:IF}{n:S}{l:List S}(h:iV i (iz i n) l):tY i n [] l:=⟨yS,yS,λs hs=>.one ((h.dir s).1 hs),λe a=>.inr ((h.dir e).2 a),yS,by simpa[qS]using h.2⟩
def tY.old{i:IF}{n s:S}{L W:List S}(h:tY i n L (s::W))(hs:s∈L):tY i n L W:=by
 refine⟨h.nd,h.xh,λx b=>h.Pt x (by simp[b]),λe a=>?_,λx b e a=>?_,by have:=h.len;simp at this;omega⟩
 ·rcases h.st e a with h1|h1
  ·exact .inl h1
  ·rcases bP.1 h1 with rfl|h1
   ·exact .inl hs
   ·exact .inr h1
 ·rcases h.cl x b e a with h1|h1
  ·exact .inl h1
  ·rcases bP.1 h1 with rfl|h1
   ·exact .inl hs
   ·exact .inr h1
def tY.new{i:IF}{n s:S}{L W l:List S}(h:tY i n L (s::W))(hs:s∉L)(hl:iV i (iz i s) l):tY i n (L++[s]) (W++l):=by
 have hr:=h.Pt s yS;refine⟨?_,?_,?_,?_,?_,?_⟩
 ·rw[eb];exact⟨h.nd,yS,λa ha b hb=>by simp at hb;subst hb;exactλe=>hs (e▸ha)⟩
 ·intro x c;rcases bJ.1 c with c|c
  ·exact h.xh x c
  ·simp at c;subst c;exact hr
 ·intro x c;rcases bJ.1 c with c|c
  ·exact h.Pt x (by simp[c])
  ·exact .more hr ((hl.dir x).1 c)
 ·intro e d;rcases h.st e d with h1|h1
  ·exact .inl (by simp[h1])
  ·rcases bP.1 h1 with rfl|h1
   ·exact .inl yS
   ·exact .inr (by simp[h1])
 ·intro x c e d;rcases bJ.1 c with c|c
  ·rcases h.cl x c e d with h1|h1
   ·exact .inl (by simp[h1])
   ·rcases bP.1 h1 with rfl|h1
    ·exact .inl yS
    ·exact .inr (by simp[h1])
  ·simp at c;subst c;exact .inr (dV _ ((hl.dir e).2 d))
 ·have a:=h.len;have b:=hl.2;simp only[bS,bE,cg,ea,bO,iL,ch,ov]at*;unfold qS at*;omega
def tY.fin{i:IF}{n:S}{L:List S}(h:tY i n L []):∀s,s∈L↔oP i n s:=by
 intro s;refine⟨h.xh s,λhr=>?_⟩;induction hr with
 |one hd=>rcases h.st _ hd with h1|h1;exact h1;simp at h1
 |more _ hd a=>rcases h.cl _ a _ hd with h1|h1;exact h1;simp at h1
def tY.cv{i:IF}{n:S}{L W:List S}(h:tY i n L W):L.length<=i.types.length:=kK h.nd λs hs=>(h.xh s hs).has
def tY.Lh{i:IF}{n:S}{L W:List S}(h:tY i n L W):W.length<=2*mq i:=by have a:=h.len;have b:=Dw i h.nd;have c:=Dx i n;omega
end Go.VC
namespace Go.VC.cK
open Go Go.VC Go.Proofs
def SC:eE:={tt:=tt,n:=32,own:=[16]}
def Wy{i:IF}(hi:i.ok)(fL:∀x∈i.types,x.lower.size<=1048576/\x.upper.size<=1048576)(aj:mq i<=1048576){m:List (S×TE)}(hm:TM m i){d dT:D}(hd:d=bH dC [i])(hT:dT=bH (fQ gv) m){n:S}{K:PV->List Ob->Prop}
 (h:∀k r,r=bH dY k->KS k (oP i n)->K (.mp 0) [.map .str 4 r]):
 FT 227 [] [.agg [.lst 51 d,.dmp 45 dT,.undef],.str n] K:=by
 refine eo SC Tryz.func227 λA C L X=>?_;have Y:=fz X.a;cbv;refine X.call (TJ hi fL hm hd hT λl0 r0 aa R=>?_);cbv;refine lP X (λy=>tY i n y.1.1 y.1.2/\y.2.2.1=bH encS y.1.2/\∃k,y.2.1=bH dY k/\KT k y.1.1) (λy=>y.1.2.length+(i.types.length-y.1.1.length)*(mq i+1)) (([],l0),.list [],r0,true) ⟨.start R,aa,[],rfl,KT.nil⟩ [0,1,2] (λ(y:(List S×List S)×D×D×Bool)=>⟨[(6,.row 9 2),(5,.mp 1),(2,.box 0 0)],[.box [.lst 51 d,.dmp 45 dT,.undef],.map .str 4 y.2.1,.row 9 y.2.2.1 y.2.2.2]⟩) ?_;rintro⟨⟨t,W⟩,P,g,wr⟩ ⟨w,p,k,o,hk⟩;simp only at w p o hk;have u:=w.Lh;have ak:=w.cv;obtain⟨ah,c,e⟩:=lenOf p;cbv;constructor<;>intro h1
 ·have j:A.lt 0 (A.len g)=true:=h1
  match W,p,c,w,u with
  |[],p,c,w,u=>exfalso;obtain rfl:=X.a;rw[e,c]at j;cases j
  |s::W,p,c,w,u=>
  have ac:A.idx 0 (A.len g):=by rw[X.a,p];exact cP (i:=0) yS
  have U:A.bL (A.cell g 0 0)=s:=jR X.a p (i:=0) yS;have B:A.asBool (A.fI P (.str (A.bL (A.cell g 0 0))) 0)=decide (s∈t):=by rw[U,X.a,o];exact vH hk _
  have N:A.p6 P (.str (A.bL (A.cell g 0 0))) [.bool true]=bH dY (pC k s):=by rw[U,X.a,o];exact rZ
  have G:A.fU 1 (A.len g):=by rw[X.a,p,cT];exact⟨yD,yQ⟩
  have E:A.part g 1 (A.len g)=bH encS W:=by rw[X.a,p,cT];have:=mi (f:=encS) (l:=s::W) (a:=1) (b:=(s::W).length);simpa using this
  simp only[bS]at u;clear h1 j;cbv;repeat' (first|apply bw|exact zf|(intro J;cbv)|apply bG)
  any_goals exact ac
  ·have e1:A.not (A.asBool (A.fI P (.str (A.bL (A.cell g 0 0))) 0))=true:=yA;rw[Y,B]at e1;have hs:s∉t:=yU e1;refine X.call (TJ hi fL hm hd hT λl r hr hl=>?_);have I:iV i (iz i s) l:=U▸hl;have q:=w.new hs I;have F:=q.Lh;have H:=q.cv;have ai:=I.2;have T:=Dx i s;simp only[qS]at T;simp only[bE,eg]at F H;have am:A.fU (A.add (A.len g) (A.len r)) 4294967296:=by rw[X.a,p,hr,cT,cT,dO];refine⟨yQ,yQ⟩
   have z:A.app g r=bH encS (s::(W++l)):=by rw[X.a,p,hr];exact cx
   have ae:A.fU 1 (A.len (A.app g r)):=by rw[z,X.a,cT];exact⟨yD,yQ⟩
   have v:A.part (A.app g r) 1 (A.len (A.app g r))=bH encS (W++l):=by rw[z,X.a,cT];have:=mi (f:=encS) (l:=s::(W++l)) (a:=1) (b:=(s::(W++l)).length);rw[List.drop_one,List.tail_cons,cG yS]at this;exact this
   have O:(W++l).length+(i.types.length-(t++[s]).length)*(mq i+1)<(s::W).length+(i.types.length-t.length)*(mq i+1):=by have:i.types.length-t.length=(i.types.length-(t.length+1))+1:=yO;have e2:(t++[s]).length=t.length+1:=yS;rw[e2,this,ez,qE,bE,bS];omega
   have Q:=hk.add s;refine p1 ?_;exact⟨((t++[s],W++l),_,_,false),⟨q,v,_,N,Q⟩,O,[0,1,2],rfl,yc⟩
  any_goals exact G
  ·have e1:A.not (A.asBool (A.fI P (.str (A.bL (A.cell g 0 0))) 0))=false:=yA;rw[Y,B]at e1;have hs:s∈t:=yU e1;exact⟨((t,W),_,_,false),⟨w.old hs,E,k,o,hk⟩,by simp only[bS];omega,[0,1,2],rfl,yc⟩
 ·have j:A.lt 0 (A.len g)=false:=h1;have V:W=[]:=by obtain rfl:=X.a;rw[e,ik]at j;have:=of_decide_eq_false j;exact cz (by simp only[bz]at this;omega)
  subst V;have M:=w.fin;cbv;exact h k P o ⟨hk.nd,λs=>(hk.mem s).trans (M s),hk.tr⟩
end Go.VC.cK
namespace Go.VC
def Az(m:List (S×TE))(l:List TE):List (S×TE):=l.foldr (λx m=>kA x.name x m) m
def G6{m:List (S×TE)}(l:List TE)(h:(m.map (·.1)).Nodup):((Az m l).map (·.1)).Nodup:=by
 induction l with
 |nil=>exact h
 |cons x l a=>exact sf a
def JD{l:List TE}{n:S}:ia (Az [] l) n=l.find? λx=>x.name==n:=by
 induction l with
 |nil=>rfl
 |cons x l a=>
  show ia (kA x.name x (Az [] l)) n=_;rw[pg,cB];by_cases h:n=x.name
  ·rw[if_pos h];simp[h]
  ·rw[if_neg h];have:(x.name==n)=false:=by rw[beq_eq_false_iff_ne];exactλe=>h e.symm
   rw[this];exact a
def Mz(l:List TE):(Az [] l).length<=l.length:=by
 induction l with
 |nil=>exact ca 0
 |cons x l a=>show (kA x.name x (Az [] l)).length<=_;have:=NC (m:=Az [] l) (k:=x.name) (v:=x);simp only[bS];omega
def TM.of(i:IF):TM (Az [] i.types) i:=⟨G6 _ yS,λn=>JD⟩
def sS(q:D):List D:=[q]
structure UM (mu:List (S×D)) (i:IF) (p:S->Prop):Prop where
 nd:(mu.map (·.1)).Nodup
 mem:∀s,s∈mu.map (·.1)↔p s
 get:∀s q,ia mu s=some q->∃k,q=bH dY k/\KS k (oP i s)
def UM.nil(i:IF):UM [] i (λ_=>False):=⟨yS,yS,λs q h=>by simp[ia]at h⟩
def UM.put{mu:List (S×D)}{i:IF}{p:S->Prop}(h:UM mu i p){s:S}{k:List (S×Bool)}(hk:KS k (oP i s)){p':S->Prop}(b:∀x,p' x↔x=s\/p x):UM (kA s (bH dY k) mu) i p':=by
 refine⟨sf h.nd,λx=>by rw[DZ,b,h.mem],λx q a=>?_⟩;rw[pg]at a;split at a
 ·rename_i e;subst e;cases a;exact⟨k,rfl,hk⟩
 ·exact h.get x q a
end Go.VC
namespace Go.VC.cK
open Go Go.VC Go.Proofs
section
variable {d:D}{K:PV->List Ob->Prop}
def Wz(h:K (.cy 262 [.cR [.lst 45 d] 0]) []):FT 226 [] [.lst 45 d] K:=by refine en (cf 4) Tryz.func226 λA C L X=>?_;cbv;exact h
def Sv:eE:={tt:=tt,n:=19,live:=[262],n0:=4}
def Wl{s n:Code}{g p f:D}{l:List TE}(hd:d=bH gv l)(hl:l.length<=4294967295){m:List (S×TE)}(W:f=bH (fQ gv) m)
 (hy:∀(x:TE)(m:List (S×TE))(f:D)(j:Int)(Q:S)(c1:D)(c2:Int)(I P:S)(M O:D)(H:Int)(F G:S)(q o:D)(T:PV->List Ob->Prop),x∈l->oA x Q c1 c2 I P M O H F G q o->f=bH (fQ gv) m->
   (∀r,r=bH (fQ gv) (kA x.name x m)->T (.bl true) [.loop 36 [15,16] s n [(3,.box 1 0)] .ready,.box [.lst 51 g,.mp 2,.mp 3],.map .str 45 r,.map .str 62 p])->
   YC Tryz.prog tt [.loop 36 [15,16] s n [(3,.box 1 0)] .ready,.box [.lst 51 g,.mp 2,.mp 3],.map .str 45 f,.map .str 62 p] [.int .i64 j,tv Q c1 c2 I P M O H F G q o] T)
 (h:∀r,r=bH (fQ gv) (Az m l)->K (.tup []) [.loop 36 [15,16] s n [(3,.box 1 0)] .ready,.box [.lst 51 g,.mp 2,.mp 3],.map .str 45 r,.map .str 62 p]):
 FT 262 [.loop 36 [15,16] s n [(3,.box 1 0)] .ready,.box [.lst 51 g,.mp 2,.mp 3],.map .str 45 f,.map .str 62 p] [.lS 0,.cR [.lst 45 d] 0] K:=by
 refine el Sv Tryz.func262 λA C L X=>?_;obtain⟨V,N,t⟩:=lenOf hd;have e:A.not true=false:=yX;have b:A.len d=br l.length:=gr X.a hd;have k:A.inr .i64 (A.sub (A.len d) 1):=by rw[b,X.a,dK,iK];simp only[bz];omega
 have v:A.sub (A.len d) 1=br l.length-1:=by rw[b,X.a];rfl
 cbv;refine .inl ⟨k,λ_=>?_⟩;cbv;refine lP X (λy=>y.1<=l.length/\y.2.1=br y.1-1/\y.2.2=bH (fQ gv) (Az m (l.drop y.1))) (λy=>y.1) (l.length,_,f) ⟨ca _,v,by simp only;rw[bZ];exact W⟩ [0,1,2,3] (λ(y:Nat×Int×D)=>⟨[(3,.int .i64 y.2.1),(1,.cR [.lst 45 d] 0),(0,.lS 0)],[.loop 36 [15,16] s n [(3,.box 1 0)] .ready,.box [.lst 51 g,.mp 2,.mp 3],.map .str 45 y.2.2,.map .str 62 p]⟩) ?_;rintro⟨i,z,R⟩ ⟨u,c,a⟩;simp only at u c a
 match i,u,c,a with
 |0,u,c,a=>
  have hc:A.le 0 z=false:=by rw[X.a,c];rfl
  cbv;repeat' (first|apply bw|exact zf|(intro J;first|exact yB hc J|cbv)|apply bG)
  exact h R a
 |j+1,u,c,a=>
  have c:z=br j:=by rw[c];simp only[bz];omega
  subst c;have hc:A.le 0 (br j)=true:=by rw[X.a,tW];exact decide_eq_true (cW _)
  have h5:j<l.length:=yO;have U:=nx X.a hd h5;have E:=iX X.a hd h5;have B:A.inr .i64 (A.sub (br j) 1):=by rw[X.a,dK,iK];simp only[bz];omega
  have w:A.sub (br j) 1=br j-1:=yX;cbv;repeat' (first|apply bw|exact zf|(intro J;first|exact yB hc J|cbv)|apply bG)
  any_goals exact E
  refine X.round (hy l[j] _ R _ _ _ _ _ _ _ _ _ _ _ _ _ _ (bx h5) U a λr hr=>?_);cbv;repeat' (first|apply bw|exact zf|(intro J;first|exact yB e J|cbv)|apply bG)
  any_goals exact B
  refine⟨(j,_,r),⟨yP,w,?_⟩,yP,[0,1,2,3],rfl,?_⟩
  ·simp only;rw[hr,bM h5];rfl
  exact yc
end
end Go.VC.cK
namespace Go.VC
section
variable {α:Type}{d:List Int}
def Bj{m:List (S×α)}{dft:S×α}(hb:∀j∈d,0<=j/\j<m.length)(ha:∀j:Nat,j<m.length->(j:Int)∈d)(s:S):s∈d.map (λj=>(m.getD j.toNat dft).1)↔s∈m.map (·.1):=by
 constructor
 ·intro h;obtain⟨j,a,rfl⟩:=bT.1 h;obtain⟨h0,h1⟩:=hb j a;have hl:j.toNat<m.length:=yO;refine bT.2 ⟨m[j.toNat],bx hl,?_⟩;simp[cj,hl]
 ·intro h;obtain⟨x,b,rfl⟩:=bT.1 h;obtain⟨k,hk⟩:=gH b;have hl:k<m.length:=(dF.1 hk).1;refine bT.2 ⟨(k:Int),ha k hl,?_⟩;simp[cj,hk]
def Ps{m:List α}(gV:d.Nodup)(hb:∀j∈d,0<=j/\j<m.length){i:Nat}(l:i<m.length)(n:(i:Int)∉d):d.length<m.length:=by
 have h1:(d.map Int.toNat).Nodup:=by refine List.pairwise_map.2 (List.Pairwise.imp_of_mem ?_ gV);intro a b ha f g e;have:=hb a ha;have:=hb b f;exact g yO
 have J:(Int.toNat (i:Int)::d.map Int.toNat).Nodup:=by rw[cn];refine⟨λh=>?_,h1⟩;obtain⟨j,c,e⟩:=bT.1 h;have:=hb j c;exact n (by rw[show (i:Int)=j by omega];exact c)
 have h3:=fm (m:=gU m.length) J λx k=>by
  rw[List.mem_range];rcases bP.1 k with rfl|k
  ·simpa using l
  ·obtain⟨j,c,rfl⟩:=bT.1 k;have:=hb j c;omega
 simp at h3;omega
end
end Go.VC
namespace Go.VC.cK
open Go Go.VC Go.Proofs
def SP:eE:={tt:=tt,n:=36,n0:=4,Nz:=true}
def W3{i:IF}(hi:i.ok)(fL:∀x∈i.types,x.lower.size<=1048576/\x.upper.size<=1048576)(ad:mq i<=1048576){N:S}{c1 c2 H M:D}{K:PV->List Ob->Prop}(hx:jN i N c1 c2 H M)
 (h:∀m mu E g T,TM m i->UM mu i (λs=>(ox i s).isSome=true)->E=bH dC [i]->g=bH (fQ gv) m->T=bH (fQ sS) mu->K (.agg [.lst 51 E,.dmp 45 g,.dmp 62 T]) []):
 FT 175 [] [mf N c1 c2 H M] K:=by
 have ab:i.types.length<=4294967295:=hi.nt;have w:∀A:qC,A=Std->A.lit [[.str N,c1,c2,H,M]]=bH dC [i]:=by rintro A rfl;obtain⟨rfl,rfl,rfl,rfl,rfl⟩:=hx;rfl
 refine eo Vx Tryz.func175 λA C L X=>?_;obtain⟨E,P⟩:∃E,E=A.lit [[.str N,c1,c2,H,M]]:=⟨_,rfl⟩;have aq:E=bH dC [i]:=P.trans (w A X.a);cbv;refine X.call (Wz ?_);cbv;refine X.range rfl ⟨Tryz.func262,by rfl,rfl⟩ rfl [(3,.box 4 0)] ?_ ?_
 ·cbv
 cbv;refine X.call (Wl (m:=[]) hx.2.1 ab rfl ?_ ?_)
 ·intro x m g j b0 b1 b2 b3 b4 b5 b6 b7 b8 b9 Q O K' av hk s8 hK;refine YC.enter (G:=SP) eX mixed rfl rfl rfl rfl rfl ?_;intro A C L X;have ef:[D.str b0,b1,.int b2,.str b3,.str b4,b5,b6,.int b7,.str b8,.str b9,Q,O]=gv x:=by obtain⟨rfl,rfl,⟨rfl,rfl,rfl,rfl,rfl⟩,rfl,rfl,rfl,rfl,rfl⟩:=hk;rw[pt]
  have q:=hK (A.p6 g (.str b0) [D.str b0,b1,.int b2,.str b3,.str b4,b5,b6,.int b7,.str b8,.str b9,Q,O]) (by rw[ef,X.a,s8,hk.1];exact rX);cbv;exact q
 intro g s8;have p:=TM.of i;have v:=Mz i.types;obtain⟨m,hm⟩:∃m,m=Az [] i.types:=⟨_,rfl⟩;rw[<- hm]at s8 p v;clear hm;have aa:∀s,s∈m.map (·.1)↔(ox i s).isSome=true:=λs=>by rw[zj,p.get]
 clear P;cbv
 refine X.K8 (λ(x:List Int×D×D)=>⟨[(24,.it 3),(3,.box 2 0),(2,.box 0 0)],[.box [.lst 51 (.list []),.nilm,.nilm],.map .str 62 x.2.2,.box [.lst 51 (A.lit [[.str N,c1,c2,H,M]]),.dmp 45 g,.mp 1],.diter 45 g x.2.1]⟩)
  (λx=>x.2.1=lO x.1/\x.1.Nodup/\(∀j∈x.1,0<=j/\j<m.length)/\∃mu,x.2.2=bH (fQ sS) mu/\UM mu i (λs=>s∈x.1.map (λj=>(m.getD j.toNat ([],TE.zero)).1))) (λx=>m.length-x.1.length) ([],.list [],.list []) ⟨rfl,yS,yS,[],rfl,by simpa using UM.nil i⟩ ?_ ?_
 ·exact⟨[2],[],[1,3,4,6],rfl,yc⟩
 rintro⟨d,z,T⟩ ⟨V,gV,hb,mu,y,R⟩;simp only at V gV hb y R;cbv;refine⟨λh1=>?_,λj h1=>?_⟩
 ·have ha:=rY (m:=m) (f:=fQ gv) (l:=d) (by rw[<- s8,<-V,<-X.a];exact h1);have W:=Bj (dft:=([],TE.zero)) hb ha;have B:UM mu i (λs=>(ox i s).isSome=true):=⟨R.nd,λs=>by rw[R.mem,W,aa],R.get⟩;have q:=h m mu (A.lit [[.str N,c1,c2,H,M]]) g T p B (w A X.a) s8 y;cbv;exact q
 ·obtain⟨u0,u1,u2⟩:0<=j/\j<m.length/\j∉d:=tV (by rw[<- s8,<-V,<-X.a];exact h1);have o:A.oC z j=lO (d++[j]):=by rw[X.a,V,xO]
  have n:A.last (A.oC z j)=j:=by rw[o,X.a,vF]
  obtain⟨k,rfl⟩:∃k:Nat,j=br k:=⟨j.toNat,yL⟩;have hk:k<m.length:=by simp only[bz]at u1;omega
  have u:A.bL (A.cell g (A.last (A.oC z (br k))) 0)=(m.getD k ([],TE.zero)).1:=by rw[n,cellAt X.a s8 hk,X.a];simp[fQ,oq,hk]
  have g1:A.idx 0 (A.len (A.oC z (br k))):=by rw[o,X.a,pw,l6];simp
  have g2:A.idx (A.last (A.oC z (br k))) (A.len g):=by rw[n,X.a,s8];exact cP hk
  have da:=Ps gV hb hk u2;have U:∀r F,r=bH dY F->A.p6 T (.str (A.bL (A.cell g (A.last (A.oC z (br k))) 0))) [r]=bH (fQ sS) (kA (m.getD k ([],TE.zero)).1 (bH dY F) mu):=by intro r F hr;rw[u,X.a,y,hr];exact rX (f:=sS)
  refine p1 ?_;refine X.call (FC.g3 (c:=.undef) (Wy hi fL ad p (w A X.a) s8 λF r hr t=>?_));have t:KS F (oP i (A.bL (A.cell g (A.last (A.oC z (br k))) 0))):=t;rw[u]at t;have B:=R.put t (p':=λs=>s∈(d++[br k]).map (λj=>(m.getD j.toNat ([],TE.zero)).1)) (λx=>by rw[cg,bJ];simp only[bO,iL,cU,bz,jV];exact JX);refine p1 ?_;refine⟨(d++[br k],A.oC z (br k),_),⟨o,?_,?_,_,U r F hr,B⟩,?_,[],[],[0,1,2,3],rfl,?_⟩
  ·rw[eb];exact⟨gV,yS,λa ha b hb=>by simp at hb;subst hb;exactλe=>u2 (show (k:Int)∈d from e▸ha)⟩
  ·intro j I;rcases bJ.1 I with I|I
   ·exact hb j I
   ·simp only[cU]at I;subst I;exact⟨u0,u1⟩
  ·simp only[bE,eg];omega
  exact yc
end Go.VC.cK
namespace Go.VC
def Py(l:List S):List D:=[bH encS l]
end Go.VC
namespace Go.VC.cK
open Go Go.VC Go.Proofs Go.Sort
end Go.VC.cK
namespace Go.VC
open Go.Sort
end Go.VC
namespace Go.VC.cK
open Go Go.VC Go.Proofs Go.Sort
def Zj(Pp:ga)(n:Nat):Type:={ x:Value×List S // RD tt Pp (.slice 9) x.1 (bH encS x.2)/\x.2.length<=n }
instance (Pp:ga) (n:Nat):Inhabited (Zj Pp n):=⟨⟨(.slice none 0 0,[]),.slnil _,bD _⟩⟩
end Go.VC.cK
namespace Go.VC
structure GM (i:IF) (n:S) (l:List S):Prop where
 mem:∀s,s∈l↔oP i n s/\oP i s n
 nd:l.Nodup
 Pe:l.Pairwise λa b=>slt b a=false
def JG{m:List (S×Bool)}{p:S->Prop}(h:KS m p)(k:S):Std.asBool (Std.fI (bH dY m) (.str k) 0)=true↔p k:=by have J:KT m (m.map (·.1)):=⟨h.nd,λs=>Iff.rfl,h.tr⟩;rw[vH J k,decide_eq_true_iff];exact h.mem k
theorem UM.at{mu:List (S×D)}{i:IF}(h:UM mu i (λs=>(ox i s).isSome=true)){b:D}(g:b=bH (fQ sS) mu)(s:S):
 ∃k,KS k (oP i s)/\cp (Std.fI b (.str s) 0)=k.map dY/\∀n,Std.asBool (Std.fI (Std.fI b (.str s) 0) (.str n) 0)=true↔oP i s n:=by
 subst g;cases hs:(ox i s).isSome with
 |true=>have h1:=(h.mem s).2 hs;rw[zj]at h1;obtain⟨q,c⟩:=dy.1 h1;obtain⟨k,rfl,hk⟩:=h.get s q c;rw[vG (f:=sS) c 0];exact⟨k,hk,rfl,λn=>JG hk n⟩
 |false=>
  have h1:ia mu s=none:=by
   have:¬s∈mu.map (·.1):=λe=>by have:=(h.mem s).1 e;rw[hs]at this;cases this
   rw[zj]at this;simpa using this
  rw[ME h1]
  have a:∀x,¬oP i s x:=by
   intro x j;have hd:∀e,¬qj i s e:=by rintro e ⟨u,hu,_⟩;have l:ox i s=none:=yU hs;rw[iz,l,qD,xT]at hu;simp at hu
   induction j with
   |one h=>exact hd _ h
   |more _ _ d=>exact d
  refine⟨[],⟨yS,λx=>?_,yS⟩,rfl,λn=>?_⟩
  ·simp only[iL,mK,false_iff];exact a x
  ·constructor
   ·intro e;exact absurd (show (false=true)from e) (by decide)
   ·intro e;exact absurd e (a n)
end Go.VC
namespace Go.VC.cK
open Go Go.VC Go.Proofs
section
variable {K:PV->List Ob->Prop}
def FC.g1{P:Program}{tt:TypeId->Option TI}{f:FuncId}{objs:List Ob}{a b c:PV}{rest:List PV}(h:FC P tt f objs (.agg [.undef,.undef,c]::rest) K):FC P tt f objs (.agg [a,b,c]::rest) K:=by
 intro E Pp w vals d e;refine h E Pp w vals d ?_;cases e with
 |cons v _ vs _ h1 J=>
  refine .cons _ _ _ _ ?_ J;cases h1 with
  |agg us _ hl=>
   cases hl with|cons _ _ _ _ ha hl=>cases hl with|cons _ _ _ _ hb hl=>cases hl with|cons _ _ _ _ hc hl=>
   cases hl;exact .agg _ _ (.cons _ _ _ _ (.undef _) (.cons _ _ _ _ (.undef _) (.cons _ _ _ _ hc .nil)))
def SB:eE:={tt:=tt,n:=29,own:=[5],eB:=[133]}
def Wx{i:IF}(ag:i.types.length<=4294967295){mu:List (S×D)}(hU:UM mu i (λs=>(ox i s).isSome=true)){E:D}(N:E=bH (fQ sS) mu){n:S}
 (h:∀l r,r=bH encS l->GM i n l->K (.row 9 0) [.row 9 r true]):
 FT 228 [] [.agg [.undef,.undef,.dmp 62 E],.str n] K:=by
 refine eo SB Tryz.func228 λA C L X=>?_;obtain⟨k,hk,c,_⟩:=hU.at N n;obtain⟨g,ac⟩:∃g,g=A.fI E (.str n) 0:=⟨_,rfl⟩;have c:cp g=k.map dY:=by rw[ac,X.a];exact c
 have U:k.length<=4294967295:=by have h1:=kK (i:=i) hk.nd λs hs=>((hk.mem s).1 hs).has;rw[bQ]at h1;exact bR h1 ag
 have aa:∀d,A.qm g (lO d)->∀j:Nat,j<k.length->(j:Int)∈d:=by intro d h1 j f;rw[X.a]at h1;have:=h1 j (by rw[c,bQ];exact f);simp only[lO,bH,cp,bT]at this;obtain⟨x,hx,he⟩:=this;simp at he;subst he;exact hx
 have R:∀d j,A.tu g (lO d) j->0<=j/\j<k.length/\j∉d:=by intro d j h1;rw[X.a]at h1;obtain⟨h1,J,h3⟩:=h1;rw[c,bQ]at J;refine⟨h1,J,λf=>h3 ?_⟩;simp only[lO,bH,cp];exact bT.2 ⟨j,f,rfl⟩
 have I:A.len g=br k.length:=by rw[X.a];show ((cp g).length:Int)=_;rw[c,bQ];rfl
 have M:∀j (f:j<k.length),A.bL (A.cell g (br j) 0)=k[j].1:=by intro j f;rw[X.a];show Std.bL ((((cp g).getD (br j).toNat []).getD 0 .nil))=_;rw[c];simp[cj,f,dY,oq]
 have O:∀s,A.asBool (A.fI (A.fI E (.str s) 0) (.str n) 0)=true↔oP i s n:=by intro s;obtain⟨_,_,_,h3⟩:=hU.at N s;rw[X.a];exact h3 n
 clear hU N;cbv
 refine X.iC (λ(x:List Int×D×D)=>⟨[(11,.it 2),(5,.row 9 1),(2,.box 0 0),(1,.str n)],[.box [.undef,.undef,.dmp 62 E],.row 9 x.2.2 true,.diter 4 (A.fI E (.str n) 0) x.2.1]⟩)
  (λx=>x.2.1=lO x.1/\x.1.Nodup/\(∀j∈x.1,0<=j/\j<k.length)/\∃l,x.2.2=bH encS l/\l.Nodup/\∀s,s∈l↔s∈x.1.map (λj=>(k.getD j.toNat ([],true)).1)/\oP i s n) (λx=>k.length-x.1.length) ([],.list [],.list []) ⟨rfl,by simp,by simp,[],rfl,by simp,by simp⟩ ?_ ?_
 ·exact⟨[0,1,2],rfl,yc⟩
 rintro⟨d,z,r⟩ ⟨hz,gV,hb,l,hr,y,o⟩;simp only at hz gV hb hr o;rw[<- ac];cbv;refine⟨λh1=>?_,λj h1=>?_⟩
 ·have ha:=aa d (by rw[<- hz];exact h1);have Q:=Bj (dft:=([],true)) hb ha;have B:l.length<4294967296:=by have h1:=fm (m:=k.map (·.1)) y λs hs=>(Q s).1 ((o s).1 hs).1;rw[bQ]at h1;exact lD (bR h1 U) yD
  cbv;refine X.call (T8 hr B λl2 r2 hp hs af=>?_);cbv;refine h l2 r2 af ⟨λs=>?_,hp.nodup_iff.2 y,hs⟩;rw[hp.mem_iff,o,Q,hk.mem]
 ·obtain⟨u0,u1,u2⟩:=R d j (by rw[<- hz];exact h1);have p:A.oC z j=lO (d++[j]):=by rw[X.a,hz,xO]
  have u:A.last (A.oC z j)=j:=by rw[p,X.a,vF]
  obtain⟨q,rfl⟩:∃q:Nat,j=br q:=⟨j.toNat,yL⟩;have P:q<k.length:=jy.1 u1;have G:A.bL (A.cell g (A.last (A.oC z (br q))) 0)=k[q].1:=by rw[u];exact M q P
  have ak:(k.getD q ([],true)).1=k[q].1:=by simp[cj,P]
  have g1:A.idx 0 (A.len (A.oC z (br q))):=by rw[p,X.a,pw,l6];simp
  have g2:A.idx (A.last (A.oC z (br q))) (A.len g):=by rw[u,I,X.a];exact⟨cW _,yL⟩
  have da:=Ps gV hb P u2
  have w:k[q].1∉l:=by
   intro e;have:=((o _).1 e).1;obtain⟨j,f,e2⟩:=bT.1 this;obtain⟨b0,b1⟩:=hb j f;have t:j.toNat<k.length:=(Int.toNat_lt b0).2 b1;have e3:k[j.toNat].1=k[q].1:=by rw[<- e2];simp[cj,t]
   have F:=iD.1 hk.nd;have ae:j.toNat≠q:=λe=>u2 (by rw[show (br q)=j by simp only[bz];omega];exact f);rcases Nat.lt_or_gt_of_ne ae with h|h
   ·have:=F j.toNat q (yU t) (yU P) h;simp at this;exact this e3
   ·have:=F q j.toNat (yU P) (yU t) h;simp at this;exact this e3.symm
  have W:A.asBool (A.fI (A.fI E (.str (A.bL (A.cell g (A.last (A.oC z (br q))) 0))) 0) (.str n) 0)=true↔oP i k[q].1 n:=by rw[G];exact O _
  have B:l.length<=4294967294:=by
   have h1:=fm (l:=k[q].1::l) (m:=k.map (·.1)) (cn.2 ⟨w,y⟩) λs hs=>by
    rcases bP.1 hs with rfl|hs
    ·exact bT.2 ⟨_,bx P,rfl⟩
    ·obtain⟨j,f,e2⟩:=bT.1 ((o s).1 hs).1;obtain⟨b0,b1⟩:=hb j f;have t:j.toNat<k.length:=(Int.toNat_lt b0).2 b1;exact bT.2 ⟨k[j.toNat],bx t,by rw[<- e2];simp[cj,t]⟩
   rw[bQ,bS]at h1;exact Nat.le_of_succ_le_succ (bR h1 U)
  have al:A.fU (A.add (A.len r) (A.len (A.lit [[.str (A.bL (A.cell g (A.last (A.oC z (br q))) 0))]]))) 4294967296:=by rw[X.a,hr];simp only[SD,bQ];omega
  have V:A.app r (A.lit [[.str (A.bL (A.cell g (A.last (A.oC z (br q))) 0))]])=bH encS (l++[k[q].1]):=by rw[G,X.a,hr];exact cx (k:=[k[q].1])
  have H:(d++[br q]).Nodup:=by rw[eb];exact⟨gV,yS,λa ha b hb=>by simp at hb;subst hb;exactλe=>u2 (show (q:Int)∈d from e▸ha)⟩
  have ab:∀j∈d++[br q],0<=j/\j<k.length:=by
   intro j f;rcases bJ.1 f with f|f
   ·exact hb j f
   ·simp only[cU]at f;subst f;exact⟨u0,u1⟩
  have v:∀s,s∈(d++[br q]).map (λj=>(k.getD j.toNat ([],true)).1)↔s∈d.map (λj=>(k.getD j.toNat ([],true)).1)\/s=k[q].1:=by intro s;rw[cg,bJ];simp only[bO,iL,cU,bz,jV,ak]
  have T:k.length-(d++[br q]).length<k.length-d.length:=by simp only[bE,eg];omega
  cbv;repeat' (first|apply bw|exact zf|(intro J;cbv)|apply bG)
  any_goals first|exact g1|exact g2|exact al
  ·have e1:A.asBool (A.fI (A.fI E (.str (A.bL (A.cell g (A.last (A.oC z (br q))) 0))) 0) (.str n) 0)=true:=yA;refine⟨(d++[br q],A.oC z (br q),_),⟨p,H,ab,_,V,?_,λs=>?_⟩,T,[0,1,2],rfl,?_⟩
   ·rw[eb];exact⟨y,yS,λa ha b hb=>by simp at hb;subst hb;exactλe=>w (e▸ha)⟩
   ·rw[bJ,cU,o,v];constructor
    ·rintro(⟨a,b⟩|rfl)
     ·exact⟨.inl a,b⟩
     ·exact⟨.inr rfl,W.1 e1⟩
    ·rintro⟨a|a,b⟩
     ·exact .inl ⟨a,b⟩
     ·exact .inr a
   exact yc
  ·have e1:A.asBool (A.fI (A.fI E (.str (A.bL (A.cell g (A.last (A.oC z (br q))) 0))) 0) (.str n) 0)=false:=yA;refine⟨(d++[br q],A.oC z (br q),r),⟨p,H,ab,l,hr,y,λs=>?_⟩,T,[0,1,2],rfl,?_⟩
   ·rw[o,v];constructor
    ·rintro⟨a,b⟩;exact⟨.inl a,b⟩
    ·rintro⟨a|rfl,b⟩
     ·exact⟨a,b⟩
     ·rw[W.2 b]at e1;cases e1
   exact yc
end
end Go.VC.cK
namespace Go.VC
def GM.uniq{i:IF}{n:S}{l d:List S}(h:GM i n l)(c:GM i n d):l=d:=by
 have e:l.Perm d:=by rw[oQ h.nd c.nd];intro s;rw[h.mem,c.mem]
 refine AG (le:=λa b=>slt b a=false) ?_ h.Pe c.Pe e;intro a b _ _ h1 J;exact mM J h1
open Classical in
noncomputable def EO(i:IF)(n:S):List S:=if h:∃l,GM i n l then h.choose else []
theorem GM.EO{i:IF}{n:S}{l:List S}(h:GM i n l):l=EO i n:=by have a:∃l,GM i n l:=⟨l,h⟩;unfold VC.EO;rw[dif_pos a];exact h.uniq a.choose_spec
end Go.VC
namespace Go.VC.cK
open Go Go.VC Go.Proofs
end Go.VC.cK
namespace Go.VC
mutual
def jF(i:IF)(g:List S):Ty->Bool
 | .mk k m n ar fl=>if k != 10 then true else if uT i g (.mk k m n ar fl)then false else js i g ar
def js(i:IF)(g:List S):List Ty->Bool
 |[]=>true
 |t::l=>jF i g t&&js i g l
end
def tL(i:IF)(g:List S):∀l,js i g l= !(l.any λt=> !jF i g t)
 |[]=>rfl
 |t::l=>by rw[js,tL i g l,kW];simp
def uA(ar:List Ty)(ps:List Pm):Bool:=decide (ar.length=ps.length)&&(ar.zip ps).all λq=>q.1.k==9&&q.1.n==q.2.name
def qq(i:IF)(g:List S)(ps:List Pm)(u:Ty):Bool:= !uT i g u||uA u.ar ps
def nW(i:IF)(g:List S)(ps:List Pm)(t:Ty):Bool:=t.all.all (qq i g ps)
def HH(i:IF)(g:List S)(ps:List Pm)(t:Ty):nW i g ps t=(qq i g ps t&& !(t.dP.any λu=> !nW i g ps u)):=by
 unfold nW;rw[all_eq,wL]
 congr 1
 rw[List.all_flatMap,List.any_eq_not_all_not,xS];simp only[xS]
end Go.VC
namespace Go.VC.cK
open Go Go.VC Go.Proofs
section
variable {d c a f e1 e5 e6 gD nZ:D}{K:PV->List Ob->Prop}{l:List Ty}{p:Ty->Bool}{j e3 e4 e8 e9:S}{e2 e7:Int}{i:IF}{m:List (S×TE)}{g:List S}
def MO(hd:f=bH cE l)(hl:l.length<=4294967295)
 (z:∀x∈l,∀(v:Int)(c1:S)(c2:S)(t:D)(u:D)(w:PV->List Ob->Prop),cD x v c1 c2 t u->(∀b,b=p x->w (.bool b) [])->FT 266 [] [df v c1 c2 t u,.cR [.lst 51 d,.dmp 45 c,.undef] 0,.cR [.lst 9 a] 0] w)
 (h:∀r:Int,r=mg p l->K (.int .i64 r) []):
 FT 299 [] [.lst 29 f,.cy 266 [.cR [.lst 51 d,.dmp 45 c,.undef] 0,.cR [.lst 9 a] 0]] K:=by
 refine en Sq Tryz.func299 λA C L X=>?_;obtain⟨k,n,e⟩:=lenOf hd;cbv;refine lu X (λi=>i<=k/\∀x∈l.take i,p x=false) (λi=>k-i) 0 ⟨bD _,yS⟩ (λ(i:Nat)=>[(8,.int .i64 i)]) ?_;rintro i ⟨E,ha⟩;cbv;constructor<;>intro h1
 ·have h5:i<l.length:=lY X.a e h1;have y:=gI X.a hd h5;have B:=iX X.a hd h5;have s:=jX X.a h5;refine p1 ?_;refine X.call (z _ (bx h5) _ _ _ _ _ _ y λb hb=>?_);have q:b=p l[i]:=hb;clear hb;cbv;repeat' (first|apply bw|exact zf|(intro J;cbv)|apply bG)
  any_goals exact s
  ·refine h i ?_;exact(kQ h5 ha (by rw[<- q];obtain rfl:=X.a;simpa only[SD]using J)).symm
  ·have hf:p l[i]=false:=by rename_i h3;rw[<- q];obtain rfl:=X.a;simpa only[SD,dq]using h3
   refine⟨i+1,⟨yO,?_⟩,yO,?_⟩
   ·rw[bX h5];intro x o;rcases bJ.1 o with o|o
    ·exact ha x o
    ·simp at o;subst o;exact hf
   exact yc
 ·have h5:i=k:=gY X.a e h1;subst h5;cbv;refine h (-1) ?_;rw[n,bF]at ha;exact(kR ha).symm
def MR(hd:f=bH cE l)(hl:l.length<=4294967295)
 (s:∀x∈l,∀(n:Int)(c1:S)(c2:S)(e:D)(k:D)(o:PV->List Ob->Prop),cD x n c1 c2 e k->(∀b,b=p x->o (.bool b) [])->FT 266 [] [df n c1 c2 e k,.cR [.lst 51 d,.dmp 45 c,.undef] 0,.cR [.lst 9 a] 0] o)
 (h:∀b,b=l.any p->K (.bool b) []):
 FT 265 [] [.lst 29 f,.cy 266 [.cR [.lst 51 d,.dmp 45 c,.undef] 0,.cR [.lst 9 a] 0]] K:=by
 refine en Ss Tryz.func265 λA C L X=>?_;cbv;refine X.call (MO hd hl s λr hr=>?_);have q:=h (A.le 0 r) (by rw[X.a,tW,rE,hr]);cbv;exact q
def MN(hd:f=bH cE l)(hl:l.length<=4294967295)
 (z:∀x∈l,∀(v:Int)(c1:S)(c2:S)(t:D)(u:D)(w:PV->List Ob->Prop),cD x v c1 c2 t u->(∀b,b=p x->w (.bool b) [])->FT 269 [] [df v c1 c2 t u,.cR [.lst 51 d,.dmp 45 c,.undef] 0,.cR [.str j,.lst 56 e1,.int .i64 e2,.str e3,.str e4,.lst 29 e5,.lst 42 e6,.int .i64 e7,.str e8,.str e9,.lst 29 gD,.lst 42 nZ] 0,.cR [.lst 9 a] 0] w)
 (h:∀r:Int,r=mg p l->K (.int .i64 r) []):
 FT 299 [] [.lst 29 f,.cy 269 [.cR [.lst 51 d,.dmp 45 c,.undef] 0,.cR [.str j,.lst 56 e1,.int .i64 e2,.str e3,.str e4,.lst 29 e5,.lst 42 e6,.int .i64 e7,.str e8,.str e9,.lst 29 gD,.lst 42 nZ] 0,.cR [.lst 9 a] 0]] K:=by
 refine en Sq Tryz.func299 λA C L X=>?_;obtain⟨k,n,e⟩:=lenOf hd;cbv;refine lu X (λi=>i<=k/\∀x∈l.take i,p x=false) (λi=>k-i) 0 ⟨bD _,yS⟩ (λ(i:Nat)=>[(8,.int .i64 i)]) ?_;rintro i ⟨E,ha⟩;cbv;constructor<;>intro h1
 ·have h5:i<l.length:=lY X.a e h1;have y:=gI X.a hd h5;have B:=iX X.a hd h5;have s:=jX X.a h5;refine p1 ?_;refine X.call (z _ (bx h5) _ _ _ _ _ _ y λb hb=>?_);have q:b=p l[i]:=hb;clear hb;cbv;repeat' (first|apply bw|exact zf|(intro J;cbv)|apply bG)
  any_goals exact s
  ·refine h i ?_;exact(kQ h5 ha (by rw[<- q];obtain rfl:=X.a;simpa only[SD]using J)).symm
  ·have hf:p l[i]=false:=by rename_i h3;rw[<- q];obtain rfl:=X.a;simpa only[SD,dq]using h3
   refine⟨i+1,⟨yO,?_⟩,yO,?_⟩
   ·rw[bX h5];intro x o;rcases bJ.1 o with o|o
    ·exact ha x o
    ·simp at o;subst o;exact hf
   exact yc
 ·have h5:i=k:=gY X.a e h1;subst h5;cbv;refine h (-1) ?_;rw[n,bF]at ha;exact(kR ha).symm
def Fw(hd:f=bH cE l)(hl:l.length<=4294967295)
 (s:∀x∈l,∀(n:Int)(c1:S)(c2:S)(e:D)(k:D)(o:PV->List Ob->Prop),cD x n c1 c2 e k->(∀b,b=p x->o (.bool b) [])->FT 269 [] [df n c1 c2 e k,.cR [.lst 51 d,.dmp 45 c,.undef] 0,.cR [.str j,.lst 56 e1,.int .i64 e2,.str e3,.str e4,.lst 29 e5,.lst 42 e6,.int .i64 e7,.str e8,.str e9,.lst 29 gD,.lst 42 nZ] 0,.cR [.lst 9 a] 0] o)
 (h:∀b,b=l.any p->K (.bool b) []):
 FT 265 [] [.lst 29 f,.cy 269 [.cR [.lst 51 d,.dmp 45 c,.undef] 0,.cR [.str j,.lst 56 e1,.int .i64 e2,.str e3,.str e4,.lst 29 e5,.lst 42 e6,.int .i64 e7,.str e8,.str e9,.lst 29 gD,.lst 42 nZ] 0,.cR [.lst 9 a] 0]] K:=by
 refine en Ss Tryz.func265 λA C L X=>?_;cbv;refine X.call (MN hd hl s λr hr=>?_);have q:=h (A.le 0 r) (by rw[X.a,tW,rE,hr]);cbv;exact q
def Wj{t:Ty}{p:Pm}{e:Int}{c1 c2:S}{q u:D}{n:S}{b1 b2:Int}{v s:S}{o r:D}(B:cD t e c1 c2 q u)(x:IV p n b1 b2 v s o r)(h:∀b,b=(t.k==9&&t.n==p.name)->K (.bool b) []):
 FT 268 [] [df e c1 c2 q u,KM n b1 b2 v s o r] K:=by
 obtain⟨E,F,y,w,z⟩:=B;rw[<- E,<-y,<-x.1]at h;refine en (cf 15) Tryz.func268 λA C L X=>?_;have Z:=mI X.a;have k:=Dg X.a;refine p2 (λJ=>?_) (λJ=>?_)
 ·have e1:A.eq e 9=true:=yA;rw[Z]at e1;refine h _ ?_;rw[e1];exact k c2 n
 ·have e1:A.eq e 9=false:=yA;rw[Z]at e1;refine h _ ?_;rw[e1];rfl
def Wk{ar:List Ty}{ps:List Pm}{t u:D}(ha:t=bH cE ar)(v:u=bH ew ps)(H:ar.length<=4294967295)(h:∀b,b=uA ar ps->K (.bool b) []):
 FT 267 [] [.lst 29 t,.lst 56 u,.cy 268 []] K:=by
 refine en (cf 32) Tryz.func267 λA C L X=>?_;obtain⟨o,r,k⟩:=lenOf ha;obtain⟨E,y,s⟩:=lenOf v;have l1:A.len t=br ar.length:=gr X.a ha;have l2:A.len u=br ps.length:=gr X.a v;have Y:=fz X.a;have Z:=mI X.a;refine p2 (λJ=>?_) (λJ=>?_)
 ·have J:A.not (A.eq (A.len t) (A.len u))=true:=J;rw[Y,Z,l1,l2]at J;refine h _ ?_;have:¬ar.length=ps.length:=λe=>by rw[e]at J;simp at J
  unfold uA;rw[decide_eq_false this];rfl
 have n:ar.length=ps.length:=by have J:A.not (A.eq (A.len t) (A.len u))=false:=J;rw[Y,Z,l1,l2]at J;have J:(br ar.length==br ps.length)=true:=yU J;exact AH (eq_of_beq J)
 clear J;cbv;refine lu X (λi=>i<=o/\((ar.zip ps).take i).all (λq=>q.1.k==9&&q.1.n==q.2.name)=true) (λi=>o-i) 0 ⟨bD _,rfl⟩ (λ(i:Nat)=>[(17,.int .i64 i)]) ?_;rintro i ⟨M,w⟩;cbv;constructor<;>intro h1
 ·have h5:i<ar.length:=lY X.a k h1;have h6:i<ps.length:=n▸h5;have h7:i<(ar.zip ps).length:=by rw[BW,n,JN];exact h6
  have F:=gI X.a ha h5;have G:=kB X.a v h6;have I:=iX X.a ha h5;have z:=iX X.a v h6;have x:=jX X.a h5;have B:(ar.zip ps)[i]=(ar[i],ps[i]):=List.getElem_zip;refine p1 ?_;refine X.call (Wj F G λb hb=>?_);cbv;repeat' (first|apply bw|exact zf|(intro J;cbv)|apply bG)
  any_goals exact x
  ·have J:A.not b=true:=yA;rw[Y,hb]at J;refine h _ ?_;have:((ar.zip ps).all λq=>q.1.k==9&&q.1.n==q.2.name)=false:=by rw[qo];refine⟨_,bx h7,?_⟩;rw[B];intro e;have e:(ar[i].k==9&&ar[i].n==ps[i].name)=true:=e;rw[e]at J;cases J
   unfold uA;rw[this,fb]
  ·have J:A.not b=false:=yA;rw[Y,hb]at J;refine⟨i+1,⟨yO,?_⟩,yO,?_⟩
   ·rw[bX h7,nS,w,B,wL,Ip,qI,fB];simpa using J
   exact yc
 ·have h5:i=o:=gY X.a k h1;cbv;refine h true ?_;rw[cG (by rw[BW,n,JN,<-n,h5,r];exact ca _)]at w;unfold uA;rw[w,decide_eq_true n];rfl
def TO(Q:i.ok)(R:TM m i)(hd:d=bH dC [i])(N:c=bH (fQ gv) m)(M:a=bH encS g)(E:g.length<=4294967295):
 ∀(t:Ty),Ty.le 4294967295 t->∀{e:Int}{c1 c2:S}{y x:D}{K:PV->List Ob->Prop},cD t e c1 c2 y x->(∀b,b=jF i g t->K (.bool b) [])->
 FT 229 [] [.agg [.lst 51 d,.dmp 45 c,.undef],df e c1 c2 y x,.lst 9 a] K:=by
 refine Ty.fC λt T=>?_;intro r e c1 c2 y x K G h;have w:=G;obtain⟨O,W,U,F,P⟩:=G;have o:t.ar.length<=4294967295:=by cases r;assumption
 have n:jF i g t=if e != 10 then true else if uT i g t then false else js i g t.ar:=by rw[O];cases t;rfl
 refine en (cf 19) Tryz.func229 λA C L X=>?_;have Y:=fz X.a;have Z:=mI X.a;cbv;repeat' (first|apply bw|exact zf|(intro J;cbv)|apply bG|(refine X.call (TH Q R hd N M E w λb hb=>?_);cbv))
 ·have J:A.not (A.eq e 10)=true:=J;rw[Y,Z]at J;refine h _ ?_;rw[n,if_pos (show (e != 10)=true from J)]
 ·have h3:A.not (A.eq e 10)=false:=yA;have J:b=true:=J;rw[Y,Z]at h3;refine h _ ?_;rw[n,if_neg (by rw[show (e != 10)= !(e==10)from rfl,h3];decide),if_pos (by rw[<- hb,J])]
 ·have h3:A.not (A.eq e 10)=false:=yA;have J:b=false:=J;rw[Y,Z]at h3;refine X.call (MR (p:=λu=> !jF i g u) F o (λu hu V b1 b2 H I K' v s=>?_) λH B=>?_)
  ·have J:=J;have k:u∈t.dP:=by simp[Ty.dP,hu]
   refine en (cf 10) Tryz.func266 λA C L X=>?_;cbv;refine X.call (T u k (gP r u k) v λI z=>?_);have q:=s (A.not I) (by rw[X.a,z];rfl);cbv;exact q
  have q:=h (A.not H) (by rw[Y,B,n,if_neg (by rw[show (e != 10)= !(e==10)from rfl,h3];decide),if_neg (by rw[<- hb,J];decide),tL]);cbv;exact q
def TN(hi:i.ok)(hm:TM m i)(hd:d=bH dC [i])(W:c=bH (fQ gv) m)(V:a=bH encS g)(N:g.length<=4294967295){x:TE}(hx:oA x j e1 e2 e3 e4 e5 e6 e7 e8 e9 gD nZ):
 ∀(t:Ty),Ty.le 4294967295 t->t.size<=4294967295->∀{P:Int}{c1 c2:S}{I H:D}{K:PV->List Ob->Prop},cD t P c1 c2 I H->(∀b,b=nW i g x.params t->K (.bool b) [])->
 FT 230 [] [.agg [.lst 51 d,.dmp 45 c,.undef],df P c1 c2 I H,tv j e1 e2 e3 e4 e5 e6 e7 e8 e9 gD nZ,.lst 9 a] K:=by
 refine Ty.fC λt ih=>?_;intro o hs P c1 c2 I H K R h;obtain⟨v,k⟩:=oY hs;have y:=R;obtain⟨t0,t1,t2,O,aa⟩:=R;have w:t.ar.length<=4294967295:=by cases o;assumption
 rw[HH]at h;refine en (cf 26) Tryz.func230 λA C L X=>?_;have Y:=fz X.a;have T:qq i g x.params t=true->∀{U:D}(st:List Ob->Prop),U=bH cE t.dP->True:=λ_ _ _ _=>trivial;have e:∀u∈t.dP,∀(E:Int)(b1 b2:S)(n z:D)(Q:PV->List Ob->Prop),cD u E b1 b2 n z->(∀b,b= !nW i g x.params u->Q (.bool b) [])->FT 269 [] [df E b1 b2 n z,.cR [.lst 51 d,.dmp 45 c,.undef] 0,.cR [.str j,.lst 56 e1,.int .i64 e2,.str e3,.str e4,.lst 29 e5,.lst 42 e6,.int .i64 e7,.str e8,.str e9,.lst 29 gD,.lst 42 nZ] 0,.cR [.lst 9 a] 0] Q:=by intro u hu E b1 b2 n z Q G F;refine en (cf 12) Tryz.func269 λA C L X=>?_;cbv;refine X.call (ih u hu (gP o u hu) (v u hu) G λz M=>?_);have q:=F (A.not z) (by rw[X.a,M];rfl);cbv;exact q
 cbv;repeat' (first|apply bw|exact zf|(intro J;cbv)|apply bG|(refine X.call (TH hi hm hd W V N y λb hb=>?_);cbv)|(refine X.call (Wk O hx.2.1 w λb2 B=>?_);cbv)|(refine X.call (TK o k y λr hr=>?_);cbv))
 ·have J:A.not b2=true:=J;have h3:b=true:=yA;rw[Y,B]at J;refine h _ ?_;rw[qq,<-hb,h3,show uA t.ar x.params=false by simpa using J];rfl
 ·have h3:b=true:=yA;rw[Y,B]at J;refine X.call (Fw (p:=λu=> !nW i g x.params u) hr k e λn s=>?_);have q:=h (A.not n) (by rw[Y,s,qq,show uA t.ar x.params=true by simpa using J,ow,fB]);cbv;exact q
 ·have h3:b=false:=yA;refine X.call (Fw (p:=λu=> !nW i g x.params u) hr k e λn s=>?_);have q:=h (A.not n) (by rw[Y,s,qq,<-hb,h3,oR,xR,fB]);cbv;exact q
end
end Go.VC.cK
namespace Go.VC
noncomputable def jW(p:Pm):Bool:=decide (p.var<0)||decide (2<p.var)|| !same p.bound Ty.zero
def nr(p:Pm):Bool:=p.var != 0
def Ai(k:Nat):S:=35::Go.Lib.decDigits k
def lf(w:Pm->Bool):Nat->List Pm->Int
 |_,[]=>0
 |k,p::l=>if p.name≠Ai k then 4 else if w p then 1 else lf w (k+1) l
def ij(w:Pm->Bool)(l:List Pm):Int:=if 8<l.length then 7 else lf w 0 l
noncomputable def kZ(i:IF)(x:TE):Bool:=
 if(EO i x.name).all (λs=>((ox i s).getD TE.zero).params.length==x.params.length)=false then false else
 jF i (EO i x.name) x.lower&&jF i (EO i x.name) x.upper&&nW i (EO i x.name) x.params x.lower&&nW i (EO i x.name) x.params x.upper
structure Ty.fit (t:Ty):Prop where
 le:Ty.le 4294967295 t
 sz:t.size<=1048576
 mF:∀u∈t.all,u.mF
structure TE.fit (x:TE):Prop where
 n:x.name.length<=1048576
 np:x.params.length<=1048576
 p:∀p∈x.params,p.bound.fit
 lo:x.lower.fit
 up:x.upper.fit
structure VE.fit (x:VE):Prop where
 n:x.name.length<=1048576
 np:x.params.length<=1048576
 p:∀p∈x.params,p.bound.fit
 ty:x.ty.fit
structure AE.fit (x:AE):Prop where
 n:x.name.length<=1048576
 g:x.target.length<=1048576
structure DE.fit (x:DE):Prop where
 n:x.name.length<=1048576
structure IF.fit (i:IF):Prop where
 ok:i.ok
 path:i.path.length<=1048576
 rf:mq i<=1048576
 nt:i.types.length<=1048576
 nv:i.values.length<=1048576
 na:i.aliases.length<=1048576
 nd:i.deprecated.length<=1048576
 t:∀x∈i.types,x.fit
 v:∀x∈i.values,x.fit
 a:∀x∈i.aliases,x.fit
 d:∀x∈i.deprecated,x.fit
def IF.fit.fL{i:IF}(h:i.fit):∀x∈i.types,x.lower.size<=1048576/\x.upper.size<=1048576:=λx a=>⟨(h.t x a).lo.sz,(h.t x a).up.sz⟩
end Go.VC
namespace Go.VC.cK
open Go Go.VC Go.Proofs
section
variable {K:PV->List Ob->Prop}{f z o:S}{b1 b2:Int}{c m:D}
abbrev rS(b:D)(a:S)(c1 c2 e d:D):PV:=.agg [.lst 51 b,.str a,.lst 45 c1,.lst 99 c2,.lst 141 e,.lst 152 d]
def UQ{p:Pm}(hf:Ty.le 4294967295 p.bound)(a:IV p f b1 b2 z o c m)(h:∀b,b=jW p->K (.bool b) []):
 FT 169 [] [KM f b1 b2 z o c m] K:=by
 obtain⟨p0,p1,p2⟩:=a;unfold jW at h;rw[<- p1]at h;refine en (cf 18) Tryz.func169 λA C L X=>?_;have Y:=fz X.a;have da:=Dh X.a;cbv;repeat' (first|apply bw|exact zf|(intro J;cbv)|apply bG|(refine X.call (W5 _ hf p2 (u:=Ty.zero) ⟨rfl,rfl,rfl,rfl,rfl⟩ λb hb=>?_);cbv))
 ·have e1:A.lt b1 0=false:=yA;have e2:A.lt 2 b1=false:=yA;rw[da]at e1 e2;refine h _ ?_;rw[e1,e2,<-hb];exact Y b
 ·have e1:A.lt b1 0=false:=yA;have e2:A.lt 2 b1=true:=yA;rw[da]at e1 e2;refine h _ ?_;rw[e1,e2];rfl
 ·have e1:A.lt b1 0=true:=yA;rw[da]at e1;refine h _ ?_;rw[e1];rfl
def UP{p:Pm}(hf:Ty.le 4294967295 p.bound)(a:IV p f b1 b2 z o c m)(h:∀b,b=nr p->K (.bool b) []):
 FT 177 [] [KM f b1 b2 z o c m] K:=by
 refine en (cf 6) Tryz.func177 λA C L X=>?_;have q:=h (A.not (A.eq b1 0)) (by rw[X.a,a.2.1];rfl);cbv;exact q
def R9:(∀{l:List Pm}{d:D}(hf:∀ p∈l,Ty.le 4294967295 p.bound){s:D}{u:S}{c1 c2 q t:D}{K:PV->List Ob->Prop}(hd:d=bH ew l)(h:∀ r:Int,r=ij jW l->K (.int .i64 r) []),FT 168 [] [rS s u c1 c2 q t,.lst 56 d,.cy 169 []] K)/\
 (∀{l:List Pm}{d:D}(hf:∀ p∈l,Ty.le 4294967295 p.bound){s:D}{u:S}{c1 c2 q t:D}{K:PV->List Ob->Prop}(hd:d=bH ew l)(h:∀ r:Int,r=ij nr l->K (.int .i64 r) []),FT 168 [] [rS s u c1 c2 q t,.lst 56 d,.cy 177 []] K):=by
 refine⟨?_,?_⟩;have E:=trivial
 rotate_left
 have I:=trivial
 rotate_left
 all_goals (
  intro l d hf s u c1 c2 q t K hd h;refine en Vy Tryz.func168 λA C L X=>?_;have Y:=fz X.a;have w:=Dg X.a;have l1:A.len d=br l.length:=gr X.a hd;obtain⟨g,n,a⟩:=lenOf hd;refine p2 (λJ=>?_) (λJ=>?_)
  ·have J:A.lt 8 (A.len d)=true:=J;rw[l1,X.a,ik]at J;refine h _ ?_;have:8<l.length:=by have:=of_decide_eq_true J;simp only[bz]at this;omega
   rw[ij,if_pos this]
  have x:¬8<l.length:=by have J:A.lt 8 (A.len d)=false:=J;rw[l1,X.a,ik]at J;have:=of_decide_eq_false J;simp only[bz]at this;omega
  rw[ij,if_neg x]at h;clear J;cbv
  first
   |(have F:=E
     refine X.loop (λ(i:Nat)=>⟨[(14,.int .i64 i),(13,.int .i64 (A.len d)),(12,.lst 56 d),(2,.cy 169 [])],[]⟩) (λi=>i<=g/\lf jW 0 l=lf jW i (l.drop i)) (λi=>g-i) 0 ⟨bD _,rfl⟩ ?_ ?_)
   |(refine X.loop (λ(i:Nat)=>⟨[(14,.int .i64 i),(13,.int .i64 (A.len d)),(12,.lst 56 d),(2,.cy 177 [])],[]⟩) (λi=>i<=g/\lf nr 0 l=lf nr i (l.drop i)) (λi=>g-i) 0 ⟨bD _,rfl⟩ ?_ ?_)
  ·exact yc
  rintro i ⟨M,k⟩;cbv;constructor<;>intro h1
  ·have h5:i<l.length:=lY X.a a h1;have v:=kB X.a hd h5;have G:=v.1;have H:=iX X.a hd h5;have y:=jX X.a h5;have j:∀r,A.sO [35] r=35::r:=by rw[X.a];exactλ_=>rfl
   rw[bM h5,lf]at k;refine p1 ?_;refine X.call (Xw (i:=i) yO λr hr=>?_)
   have B:A.inr .i64 (A.add (A.dz [35]) (A.dz r)):=by
    have h8:r.length=1:=by rw[hr,Go.Lib.decDigits,dif_pos yO];rfl
    rw[X.a,dK,dO,fJ,fJ,h8];decide
   have e1:A.not (A.seq (A.bL (A.cell d (br i) 0)) (A.sO [35] r))= !(l[i].name==Ai i):=by rw[Y,w,G,j,hr];rfl
   cbv
   first
    |(have F:=E
      repeat' (first|apply bw|exact zf|(intro J;cbv)|apply bG|(refine X.call (UQ (hf _ (bx h5)) v λb hb=>?_);cbv)))
    |(repeat' (first|apply bw|exact zf|(intro J;cbv)|apply bG|(refine X.call (UP (hf _ (bx h5)) v λb hb=>?_);cbv)))
   any_goals first|exact y|exact B
   ·have J:A.not (A.seq (A.bL (A.cell d (br i) 0)) (A.sO [35] r))=true:=yA;rw[e1]at J;refine h _ ?_;rw[k,if_pos (by intro e;rw[e]at J;simp at J)]
   ·have J:A.not (A.seq (A.bL (A.cell d (br i) 0)) (A.sO [35] r))=false:=yA;have h3:b=true:=yA;rw[e1]at J;refine h _ ?_;rw[k,if_neg (yU J),if_pos (by rw[<- hb,h3])]
   ·have J:A.not (A.seq (A.bL (A.cell d (br i) 0)) (A.sO [35] r))=false:=yA;have h3:b=false:=yA;rw[e1]at J;refine⟨i+1,⟨by omega,?_⟩,by omega,?_⟩
    ·rw[k,if_neg (yU J),if_neg (by rw[<- hb,h3];decide)]
    exact yc
  ·have h5:i=g:=gY X.a a h1;cbv;refine h 0 ?_;rw[k,h5,n,bZ];rfl)
def SQ:eE:={tt:=tt,n:=19,own:=[3]}
def TY{l:List Pm}{d:D}(hd:d=bH ew l)(hl:l.length<=1048576)(h:∀r,r=bH encS (l.map Pm.name)->K (.row 9 0) [.row 9 r true]):
 FT 171 [] [.lst 56 d] K:=by
 refine eo SQ Tryz.func171 λA C L X=>?_;obtain⟨b,e,a⟩:=lenOf hd;cbv;refine lP X (λy=>y.1<=b/\y.2=bH encS ((l.take y.1).map Pm.name)) (λy=>b-y.1) (0,.list []) ⟨bD _,rfl⟩ [0] (λ(y:Nat×D)=>⟨[(8,.int .i64 y.1),(7,.int .i64 (A.len d)),(6,.lst 56 d),(3,.row 9 0)],[.row 9 y.2 true]⟩) ?_;rintro⟨i,r⟩ ⟨t,hr⟩;simp only at t hr;cbv;constructor<;>intro h1
 ·have h5:i<l.length:=lY X.a a h1;have g:=kB X.a hd h5;have n:=g.1;have q:=iX X.a hd h5;have j:=jX X.a h5;have s:A.fU (A.add (A.len r) (A.len (A.lit [[.str (A.bL (A.cell d (br i) 0))]]))) 4294967296:=by rw[X.a,hr];simp only[SD,bQ];omega
  have p:A.app r (A.lit [[.str (A.bL (A.cell d (br i) 0))]])=bH encS ((l.take (i+1)).map Pm.name):=by rw[n,X.a,hr,map_take h5];exact cx (k:=[l[i].name])
  refine p1 ?_;exact⟨(i+1,_),⟨yP,p⟩,yP,[0],rfl,yc⟩
 have h5:i=b:=gY X.a a h1;subst h5;rw[e,bF]at hr;cbv;exact h r hr
def W4{l:List Int}{d:D}(hd:d=bH (λj=>[D.int j]) l)(hl:l.length<=1048576)(h:∀r:Int,r=fj l->K (.int .i64 r) []):
 FT 172 [] [.lst 35 d] K:=by
 refine en (cf 15) Tryz.func172 λA C L X=>?_;have Y:=fz X.a;have Z:=mI X.a;obtain⟨b,e,a⟩:=lenOf hd;cbv;refine lu X (λi=>i<=b/\fj l=fj (l.drop i)) (λi=>b-i) 0 ⟨bD _,rfl⟩ (λ(i:Nat)=>[(7,.int .i64 i)]) ?_;rintro i ⟨q,g⟩;cbv;constructor<;>intro h1
 ·have h5:i<l.length:=lY X.a a h1;have p:A.asInt (A.cell d (br i) 0)=l[i]:=by rw[cellAt X.a hd h5,X.a];rfl
  have n:=iX X.a hd h5;have k:=jX X.a h5;rw[bM h5,fT,<-p]at g;cbv;repeat' (first|apply bw|exact zf|(intro J;cbv)|apply bG)
  any_goals first|exact n|exact k
  ·have J:A.not (A.eq (A.asInt (A.cell d (br i) 0)) 0)=true:=yA;rw[Y,Z]at J;refine h _ ?_;rw[g,if_neg (yU J)]
  ·have J:A.not (A.eq (A.asInt (A.cell d (br i) 0)) 0)=false:=yA;rw[Y,Z]at J;refine⟨i+1,⟨yO,?_⟩,yO,?_⟩
   ·rw[g,if_pos (yU J)]
   exact yc
 ·have h5:i=b:=gY X.a a h1;cbv;refine h 0 ?_;rw[g,h5,e,bZ];rfl
end
end Go.VC.cK
namespace Go.VC
noncomputable def nU(env:List IF)(i:IF)(x:TE):Int:=
 if ij jW x.params≠0 then ij jW x.params else
 if fj [nu env (x.params.map Pm.name) x.lower,nu env (x.params.map Pm.name) x.upper]≠0 then fj [nu env (x.params.map Pm.name) x.lower,nu env (x.params.map Pm.name) x.upper]else
 if(!iU env x.lower [] x.params|| !iU env x.upper [] x.params)=true then 12 else
 if kZ i x=false then 14 else 0
def tp(env:List IF)(vs:List S):Nat->List Pm->Int
 |_,[]=>0
 |k,p::l=>if nu env (vs.take k) p.bound≠0 then nu env (vs.take k) p.bound else tp env vs (k+1) l
def sM(env:List IF)(x:VE):Int:=
 if ij nr x.params≠0 then ij nr x.params else
 if tp env (x.params.map Pm.name) 0 x.params≠0 then tp env (x.params.map Pm.name) 0 x.params else
 nu env (x.params.map Pm.name) x.ty
def j3(env:List IF)(x:AE):Int:=
 if(iT x.name&&iT x.target)=true then(dD env x.module x.target).2.2 else
 if(ie x.name&&ie x.target)=true then(gb env x.module x.target).2.2 else 4
end Go.VC
namespace Go.VC.cK
open Go Go.VC Go.Proofs
section
variable {c e3 e4 o e8 e9:S}{K:PV->List Ob->Prop}{e1 e5 e6 f c1 c2 g n gD nZ:D}{e2 e7:Int}{env:List IF}{i:IF}{x:TE}
def W2(F:i.fit)(r:x.fit){m:List (S×TE)}(G:TM m i){mu:List (S×D)}(hU:UM mu i (λs=>(ox i s).isSome=true)){d I dU:D}(hd:d=bH dC [i])(E:I=bH (fQ gv) m)(T:dU=bH (fQ sS) mu)
 (w:oA x c e1 e2 e3 e4 e5 e6 e7 e8 e9 gD nZ) (h:∀b,b=kZ i x->K (.bool b) []):
 FT 176 [] [.agg [.lst 51 d,.dmp 45 I,.dmp 62 dU],tv c e1 e2 e3 e4 e5 e6 e7 e8 e9 gD nZ] K:=by
 have k0:=w.1;have k1:=w.2.1;refine en (cf 57) Tryz.func176 λA C L X=>?_;have Y:=fz X.a;have Z:=mI X.a;cbv;refine X.call (FC.g1 (Wx F.ok.nt hU T λl H p u=>?_));rw[k0]at u;have B:=u.EO;have O:l.length<=1048576:=bR (kK u.nd λs hs=>((u.mem s).1 hs).1.has) F.nt;obtain⟨t,z,a⟩:=lenOf p;cbv;refine lu X (λj=>j<=t/\(l.take j).all (λs=>((ox i s).getD TE.zero).params.length==x.params.length)=true) (λj=>t-j) 0 ⟨bD _,rfl⟩ (λ(j:Nat)=>[(14,.int .i64 j)]) ?_;rintro j ⟨hj,Q⟩;cbv;constructor<;>intro h1
 ·have h5:j<l.length:=lY X.a a h1;have aa:=iX X.a p h5;have R:=jX X.a h5;have hc:A.bL (A.cell H (br j) 0)=l[j]:=by rw[cellAt X.a p h5,X.a];rfl
  obtain⟨y,N⟩:=dy.1 ((u.mem l[j]).1 (bx h5)).1.has;have M:A.pb I (.str (A.bL (A.cell H (br j) 0)))=true:=by rw[hc,X.a,E,pD,G.get,N];rfl
  have ky:=Pc X.a E (k:=A.bL (A.cell H (br j) 0)) (by rw[hc,G.get];exact N);have l1:A.len (A.fI I (.str (A.bL (A.cell H (br j) 0))) 1)=br y.params.length:=gr X.a ky.2.1;have l2:A.len e1=br x.params.length:=gr X.a k1;have P:(l.take (j+1)).all (λs=>((ox i s).getD TE.zero).params.length==x.params.length)=(y.params.length==x.params.length):=by rw[bX h5,nS,Q,fB,wL,Ip,qI,N];rfl
  have v:(br y.params.length==br x.params.length)=(y.params.length==x.params.length):=by rw[cm];simp only[beq_iff_eq,bz];omega
  cbv;repeat' (first|apply bw|exact zf|(intro J;first|exact yB M J|cbv)|apply bG)
  any_goals first|exact aa|exact R
  ·rw[Y,Z,l1,l2,v]at J;refine h _ ?_;have hf:(EO i x.name).all (λs=>((ox i s).getD TE.zero).params.length==x.params.length)=false:=by rw[qo];refine⟨l[j],by rw[<- B];exact bx h5,?_⟩;rw[N];intro e;rw[show (y.params.length==x.params.length)=true from e]at J;cases J
   unfold kZ;rw[if_pos hf]
  ·have J:A.not (A.eq (A.len (A.fI I (.str (A.bL (A.cell H (br j) 0))) 1)) (A.len e1))=false:=yA;rw[Y,Z,l1,l2,v]at J;refine⟨j+1,⟨yO,?_⟩,yO,?_⟩
   ·rw[P];simpa using J
   exact yc
 ·have h5:j=t:=gY X.a a h1;rw[h5,z,bF,B]at Q;have q:l.length<=4294967295:=bR O yD;unfold kZ at h;rw[if_neg (by rw[Q];decide),<-B]at h;cbv;repeat' (first|apply bw|exact zf|(intro J;cbv)|apply bG|(refine X.call (FC.g3 (TO F.ok G hd E p q _ r.lo.le w.2.2.1 λb1 W=>?_));cbv)|(refine X.call (FC.g3 (TO F.ok G hd E p q _ r.up.le w.2.2.2 λb2 U=>?_));cbv)|(refine X.call (FC.g3 (TN F.ok G hd E p q w _ r.lo.le (bR r.lo.sz yD) w.2.2.1 λb3 ab=>?_));cbv)|(refine X.call (FC.g3 (TN F.ok G hd E p q w _ r.up.le (bR r.up.sz yD) w.2.2.2 λb4 V=>?_));cbv))
  all_goals refine h _ ?_
  all_goals (try rw[<- W])
  all_goals (try rw[<- U])
  all_goals (try rw[<- ab])
  all_goals (try rw[<- V])
  ·rw[show b1=true by assumption,show b2=true by assumption,show b3=true by assumption];rfl
  ·rw[show b1=true by assumption,show b2=true by assumption,show b3=false by assumption];rfl
  ·rw[show b1=true by assumption,show b2=false by assumption];rfl
  ·rw[show b1=false by assumption];rfl
def Xs(E:f=bH dC env)(e:dW env)(B:i.fit)(d:x.fit)
 (hc:jN i o c1 c2 g n) (l:oA x c e1 e2 e3 e4 e5 e6 e7 e8 e9 gD nZ) (h:∀r:Int,r=nU env i x->K (.int .i64 r) []):
 FT 122 [] [rS f o c1 c2 g n,tv c e1 e2 e3 e4 e5 e6 e7 e8 e9 gD nZ] K:=by
 have z:=l.2.1;have G:∀{r:D},r=bH encS (x.params.map Pm.name)->(x.params.map Pm.name).length<=4294967295:=λ_=>by rw[bQ];exact bR d.np yD
 have H:∀p∈x.params,Ty.le 4294967295 p.bound:=λp V=>(d.p p V).le;have t:x.params.length<=4294967295:=bR d.np yD;have I:x.lower.size<=4294967295:=bR d.lo.sz yD;have O:x.upper.size<=4294967295:=bR d.up.sz yD;refine en VS Tryz.func122 λA C L X=>?_;have Y:=fz X.a;have Z:=mI X.a;have u:∀a b:Int,A.lit [[.int a],[.int b]]=bH (λj=>[D.int j]) [a,b]:=by rw[X.a];exactλ_ _=>rfl
 unfold nU at h;cbv;refine X.call (R9.1 H z λr0 v=>?_);rw[<- v]at h;refine p2 (λJ=>?_) (λJ=>?_)
 ·have J:A.not (A.eq r0 0)=true:=J;rw[Y,Z]at J;exact h _ (by rw[if_pos (yU J)])
 have J:A.not (A.eq r0 0)=false:=J;rw[Y,Z]at J;rw[if_neg (yU J)]at h;refine X.call (TY z d.np λvs k=>?_);have s:=G k;cbv;repeat' (first|apply bw|exact zf|(intro J;cbv)|apply bG|(refine X.call (OY E e k s d.lo.le I d.lo.mF l.2.2.1 λU w=>?_);cbv)|(refine X.call (OY E e k s d.up.le O d.up.mF l.2.2.2 λr2 q=>?_);cbv))
 refine X.call (W4 (u U r2) (show (2:Nat)<=1048576 by decide) λT y=>?_);rw[<- w,<-q,<-y]at h;clear J;refine p2 (λJ=>?_) (λJ=>?_)
 ·have J:A.not (A.eq T 0)=true:=J;rw[Y,Z]at J;exact h _ (by rw[if_pos (yU J)])
 have J:A.not (A.eq T 0)=false:=J;rw[Y,Z]at J;rw[if_neg (yU J)]at h;clear J;cbv;repeat' (first|apply bw|exact zf|(intro J;cbv)|apply bG|(refine X.call (TX E e z t d.lo.le l.2.2.1 λb1 Q=>?_);cbv)|(refine X.call (TX E e z t d.up.le l.2.2.2 λb2 P=>?_);cbv)|(refine X.call (W3 B.ok B.fL B.rf hc λm mu dA dT dU W M F s8 N=>?_);cbv)|(refine X.call (W2 B d W M F s8 N l λb3 R=>?_);cbv))
 all_goals refine h _ ?_
 all_goals clear h w q y v
 all_goals (try simp only[Y]at *)
 all_goals (try subst Q)
 all_goals (try subst P)
 all_goals (try subst R)
 all_goals simp_all[dq]
def Xq(u:f=bH dC env)(e:dW env){x:AE}(b:x.fit)
 {e1 e2:S} (w:C6 x c e1 e2) (h:∀r:Int,r=j3 env x->K (.int .i64 r) []):
 FT 124 [] [rS f o c1 c2 g n,JB c e1 e2] K:=by
 obtain⟨s,y,t⟩:=w;have a:c.length<=4294967295:=by rw[s];exact bR b.n yD
 have d:e2.length<=4294967295:=by rw[t];exact bR b.g yD
 unfold j3 at h;rw[<- s,<-y,<-t]at h;refine en (cf 53) Tryz.func124 λA C L X=>?_;cbv;repeat' (first|apply bw|exact zf|(intro J;cbv)|apply bG|(refine X.call (JJ a λb1 p=>?_);cbv)|(refine X.call (JJ d λb2 k=>?_);cbv)|(refine X.call (Ha a λz q=>?_);cbv)|(refine X.call (Ha d λB m=>?_);cbv)|(refine X.call (TC u e λ_ _ _ _ _ _ _ _ _ _ _ _ v r2 _ l j=>?_);cbv)|(refine X.call (W1 u e λ_ _ _ _ _ _ _ v r2 _ l j=>?_);cbv))
 all_goals refine h _ ?_
 all_goals clear h
 all_goals (try subst p)
 all_goals (try subst k)
 all_goals (try subst q)
 all_goals (try subst m)
 all_goals simp_all[dq]
def Xr(H:f=bH dC env)(u:dW env){x:VE}(a:x.fit)
 (G:tn x c e1 e2 e3 e4 e5 e6) (h:∀r:Int,r=sM env x->K (.int .i64 r) []):
 FT 123 [] [rS f o c1 c2 g n,xv c e1 e2 e3 e4 e5 e6] K:=by
 have q:=G.2.1;have t:(x.params.map Pm.name).length<=1048576:=by rw[bQ];exact a.np
 have z:∀p∈x.params,Ty.le 4294967295 p.bound:=λp N=>(a.p p N).le;have I:x.params.length<=4294967295:=bR a.np yD;have E:x.ty.size<=4294967295:=bR a.ty.sz yD;refine en VQ Tryz.func123 λA C L X=>?_;have Y:=fz X.a;have Z:=mI X.a;unfold sM at h;cbv;refine X.call (R9.2 z q λr0 F=>?_);rw[<- F]at h;refine p2 (λJ=>?_) (λJ=>?_)
 ·have J:A.not (A.eq r0 0)=true:=J;rw[Y,Z]at J;exact h _ (by rw[if_pos (yU J)])
 have J:A.not (A.eq r0 0)=false:=J;rw[Y,Z]at J;rw[if_neg (yU J)]at h;refine X.call (TY q a.np λvs m=>?_);obtain⟨d,k,b⟩:=lenOf q;cbv;refine lp X (λj=>j.1<=d/\tp env (x.params.map Pm.name) 0 x.params=tp env (x.params.map Pm.name) j.1 (x.params.drop j.1)) (λj=>d-j.1) (0,true) ⟨bD _,rfl⟩ (λ(j:Nat×Bool)=>⟨[(23,.int .i64 j.1),(22,.int .i64 (A.len e1)),(21,.lst 56 e1),(6,.row 9 2),(3,.box 1 0),(2,.box 0 0)],[.box [.lst 51 f,.str o,.lst 45 c1,.lst 99 c2,.lst 141 g,.lst 152 n],.box [.str c,.lst 56 e1,.int .i64 e2,.str e3,.str e4,.lst 29 e5,.lst 42 e6],.row 9 vs j.2]⟩) ?_;rintro⟨j,fl⟩ ⟨Q,e⟩;simp only at Q e;cbv;constructor<;>intro h1
 ·have h5:j<x.params.length:=lY X.a b h1;have P:=kB X.a q h5;have T:=iX X.a q h5;have B:=jX X.a h5;cbv;have v:A.part vs 0 (br j)=bH encS ((x.params.map Pm.name).take j):=by rw[X.a,m,nn];simp
  have y:((x.params.map Pm.name).take j).length<=4294967295:=bR (List.length_take_le' _ _) (bR t yD);have U:(a.p _ (bx h5)).le=(a.p _ (bx h5)).le:=rfl;have w:x.params[j].bound.size<=4294967295:=bR (a.p _ (bx h5)).sz yD;have O:A.fU 0 (br j):=by rw[X.a];simp only[SD];omega
  have R:A.fU (br j) (A.len vs):=by rw[X.a,m];simp only[SD,bQ];omega
  rw[bM h5,tp]at e;refine p1 ?_;refine X.call (OY H u v y (a.p _ (bx h5)).le w (a.p _ (bx h5)).mF P.2.2 λs l=>?_);rw[<- l]at e;cbv;repeat' (first|apply bw|exact zf|(intro J;cbv)|apply bG)
  any_goals exact B
  ·have J:A.not (A.eq s 0)=true:=yA;rw[Y,Z]at J;rw[if_pos (yU J)]at e;refine h _ ?_;rw[e,if_pos (yU J)]
  ·have J:A.not (A.eq s 0)=false:=yA;rw[Y,Z]at J;have h4:s=0:=yU J;rw[if_neg (by rw[h4];decide)]at e;exact⟨(j+1,false),⟨yP,e⟩,yP,yc⟩
 ·have h5:j=d:=gY X.a b h1;have M:tp env (x.params.map Pm.name) 0 x.params=0:=by rw[e,h5,k,bZ];rfl
  rw[M,if_neg yD]at h;cbv;refine X.call (OY H u m (bR t yD) a.ty.le E a.ty.mF G.2.2 λs l=>?_);cbv;exact h s l
end
end Go.VC.cK
namespace Go.VC
end Go.VC
namespace Go.VC.cK
open Go Go.VC Go.Proofs
end Go.VC.cK
namespace Go.VC
def rF(i:IF):Int:=if Bb i.path=false then 4 else if 64<i.types.length+i.values.length+i.aliases.length then 7 else 0
def lh(i:IF):List S:=i.types.map TE.name
def kL(i:IF):List S:=i.values.map VE.name
def lK(i:IF):List S:=i.aliases.map AE.name
def qL(i:IF):List S:=i.deprecated.map DE.name
end Go.VC
namespace Go.VC.cK
open Go Go.VC Go.Proofs
section
variable {i:IF}{f c1 c2 a c:D}{d:S}{K:PV->List Ob->Prop}
def Zw(g:i.fit)(hc:jN i d c1 c2 a c)(h:∀r:Int,r=rF i->K (.tup [.str [],.int .i64 r]) []):
 FT 82 [] [rS f d c1 c2 a c] K:=by
 have k:d.length<=4294967200:=by rw[hc.1];exact bR g.path yD
 unfold rF at h;rw[<- hc.1]at h;refine en (cf 26) Tryz.func82 λA C L X=>?_;have l1:A.len c1=br i.types.length:=gr X.a hc.2.1;have l2:A.len c2=br i.values.length:=gr X.a hc.2.2.1;have j:A.len a=br i.aliases.length:=gr X.a hc.2.2.2.1;have Y:=fz X.a;have n:=g.nt;have o:=g.nv;have p:=g.na;have l:A.inr .i64 (A.add (A.len c1) (A.len c2)):=by rw[l1,l2,X.a];simp only[SD];omega
 have m:A.inr .i64 (A.add (A.add (A.len c1) (A.len c2)) (A.len a)):=by rw[l1,l2,j,X.a];simp only[SD];omega
 cbv;repeat' (first|apply bw|exact zf|(intro J;cbv)|apply bG|(refine X.call (Ua k λb hb=>?_);cbv))
 ·rw[Y,hb]at J;refine h _ ?_;rw[if_pos (yU J)]
 ·exact l
 ·exact m
 ·have h3:A.not b=false:=yA;rw[Y,hb]at h3;rw[l1,l2,j,X.a]at J;simp only[SD]at J;refine h _ ?_;rw[if_neg (by intro e;rw[e]at h3;cases h3),if_pos yO]
 ·have h3:A.not b=false:=yA;rw[Y,hb]at h3;rw[l1,l2,j,X.a]at J;simp only[SD]at J;refine h _ ?_;rw[if_neg (by intro e;rw[e]at h3;cases h3),if_neg yO]
def S1:eE:={tt:=tt,n:=79,own:=[4]}
def Rb(O:i.fit)(hc:jN i d c1 c2 a c)
 (h:∀d0 R d2 Q,d0=bH encS (lh i)->R=bH encS (kL i)->d2=bH encS (lK i)->Q=bH encS (qL i)->K (.tup [.agg [.lst 9 d0,.lst 9 R,.lst 9 d2,.lst 9 Q],.agg [.cy 165 [],.cy 166 [],.cy 167 [],.cy 167 []]]) []):
 FT 120 [] [rS f d c1 c2 a c] K:=by
 refine en S1 Tryz.func120 λA C L X=>?_;have V:=O.nt;have W:=O.nv;have T:=O.na;have U:=O.nd;obtain⟨q,r⟩:∃n,n=i.types.length:=⟨_,rfl⟩;have e:Std.len c1=br q:=by rw[hc.2.1,cT,r];rfl
 cbv;refine lP X (λy=>y.1<=q/\y.2=bH encS ((i.types.take y.1).map TE.name)) (λy=>q-y.1) (0,.list []) ⟨bD _,rfl⟩ [0,1,2,3,4,5,6,7] (λ(y:Nat×D)=>⟨[(17,.int .i64 y.1),(16,.int .i64 (A.len c1)),(15,.lst 45 c1),(4,.box 7 0),(3,.box 2 0),(2,.box 1 0),(1,.box 0 0)],[.box [.lst 51 f,.str d,.lst 45 c1,.lst 99 c2,.lst 141 a,.lst 152 c],.box [.lst 9 (.list []),.lst 9 (.list []),.lst 9 (.list []),.lst 9 (.list [])],.box [.nilf,.nilf,.nilf,.nilf],.row 9 (y.2) true,.row 9 (.list []) true,.row 9 (.list []) true,.row 9 (.list []) true,.box [.row 9 3,.row 9 4,.row 9 5,.row 9 6]]⟩) ?_;rintro⟨j,r0⟩ ⟨B,v⟩;simp only at B v;cbv;constructor<;>intro h1
 ·have h5:j<i.types.length:=lY X.a e h1;have E:=nx X.a hc.2.1 h5;have F:=E.1;have M:=iX X.a hc.2.1 h5;have H:=jX X.a h5;have I:A.fU (A.add (A.len r0) (A.len (A.lit [[.str (A.bL (A.cell c1 (br j) 0))]]))) 4294967296:=by rw[X.a,v];simp only[SD,bQ];omega
  have G:A.app r0 (A.lit [[.str (A.bL (A.cell c1 (br j) 0))]])=bH encS ((i.types.take (j+1)).map TE.name):=by rw[F,X.a,v,map_take h5];exact cx (k:=[i.types[j].name])
  refine p1 ?_;exact⟨(j+1,_),⟨yP,G⟩,yP,[0,1,2,3,4,5,6,7],rfl,yc⟩
 have h5:j=q:=gY X.a e h1;rw[h5,r,bF]at v;clear h1 B;obtain⟨m,t⟩:∃n,n=i.values.length:=⟨_,rfl⟩;have l:Std.len c2=br m:=by rw[hc.2.2.1,cT,t];rfl
 cbv;refine lP X (λy=>y.1<=m/\y.2=bH encS ((i.values.take y.1).map VE.name)) (λy=>m-y.1) (0,.list []) ⟨bD _,rfl⟩ [0,1,2,3,4,5,6,7] (λ(y:Nat×D)=>⟨[(33,.int .i64 y.1),(32,.int .i64 (A.len c2)),(31,.lst 99 c2),(4,.box 7 0),(3,.box 2 0),(2,.box 1 0),(1,.box 0 0)],[.box [.lst 51 f,.str d,.lst 45 c1,.lst 99 c2,.lst 141 a,.lst 152 c],.box [.lst 9 (.list []),.lst 9 (.list []),.lst 9 (.list []),.lst 9 (.list [])],.box [.nilf,.nilf,.nilf,.nilf],.row 9 (r0) true,.row 9 (y.2) true,.row 9 (.list []) true,.row 9 (.list []) true,.box [.row 9 3,.row 9 4,.row 9 5,.row 9 6]]⟩) ?_;rintro⟨j,N⟩ ⟨B,x⟩;simp only at B x;cbv;constructor<;>intro h1
 ·have h5:j<i.values.length:=lY X.a l h1;have E:=pL X.a hc.2.2.1 h5;have F:=E.1;have M:=iX X.a hc.2.2.1 h5;have H:=jX X.a h5;have I:A.fU (A.add (A.len N) (A.len (A.lit [[.str (A.bL (A.cell c2 (br j) 0))]]))) 4294967296:=by rw[X.a,x];simp only[SD,bQ];omega
  have G:A.app N (A.lit [[.str (A.bL (A.cell c2 (br j) 0))]])=bH encS ((i.values.take (j+1)).map VE.name):=by rw[F,X.a,x,map_take h5];exact cx (k:=[i.values[j].name])
  refine p1 ?_;exact⟨(j+1,_),⟨yP,G⟩,yP,[0,1,2,3,4,5,6,7],rfl,yc⟩
 have h5:j=m:=gY X.a l h1;rw[h5,t,bF]at x;clear h1 B;obtain⟨o,w⟩:∃n,n=i.aliases.length:=⟨_,rfl⟩;have b:Std.len a=br o:=by rw[hc.2.2.2.1,cT,w];rfl
 cbv;refine lP X (λy=>y.1<=o/\y.2=bH encS ((i.aliases.take y.1).map AE.name)) (λy=>o-y.1) (0,.list []) ⟨bD _,rfl⟩ [0,1,2,3,4,5,6,7] (λ(y:Nat×D)=>⟨[(49,.int .i64 y.1),(48,.int .i64 (A.len a)),(47,.lst 141 a),(4,.box 7 0),(3,.box 2 0),(2,.box 1 0),(1,.box 0 0)],[.box [.lst 51 f,.str d,.lst 45 c1,.lst 99 c2,.lst 141 a,.lst 152 c],.box [.lst 9 (.list []),.lst 9 (.list []),.lst 9 (.list []),.lst 9 (.list [])],.box [.nilf,.nilf,.nilf,.nilf],.row 9 (r0) true,.row 9 (N) true,.row 9 (y.2) true,.row 9 (.list []) true,.box [.row 9 3,.row 9 4,.row 9 5,.row 9 6]]⟩) ?_;rintro⟨j,r2⟩ ⟨B,s⟩;simp only at B s;cbv;constructor<;>intro h1
 ·have h5:j<i.aliases.length:=lY X.a b h1;have E:=tU X.a hc.2.2.2.1 h5;have F:=E.1;have M:=iX X.a hc.2.2.2.1 h5;have H:=jX X.a h5;have I:A.fU (A.add (A.len r2) (A.len (A.lit [[.str (A.bL (A.cell a (br j) 0))]]))) 4294967296:=by rw[X.a,s];simp only[SD,bQ];omega
  have G:A.app r2 (A.lit [[.str (A.bL (A.cell a (br j) 0))]])=bH encS ((i.aliases.take (j+1)).map AE.name):=by rw[F,X.a,s,map_take h5];exact cx (k:=[i.aliases[j].name])
  refine p1 ?_;exact⟨(j+1,_),⟨yP,G⟩,yP,[0,1,2,3,4,5,6,7],rfl,yc⟩
 have h5:j=o:=gY X.a b h1;rw[h5,w,bF]at s;clear h1 B;obtain⟨p,u⟩:∃n,n=i.deprecated.length:=⟨_,rfl⟩;have g:Std.len c=br p:=by rw[hc.2.2.2.2,cT,u];rfl
 cbv;refine lP X (λy=>y.1<=p/\y.2=bH encS ((i.deprecated.take y.1).map DE.name)) (λy=>p-y.1) (0,.list []) ⟨bD _,rfl⟩ [0,1,2,3,4,5,6,7] (λ(y:Nat×D)=>⟨[(65,.int .i64 y.1),(64,.int .i64 (A.len c)),(63,.lst 152 c),(4,.box 7 0),(3,.box 2 0),(2,.box 1 0),(1,.box 0 0)],[.box [.lst 51 f,.str d,.lst 45 c1,.lst 99 c2,.lst 141 a,.lst 152 c],.box [.lst 9 (.list []),.lst 9 (.list []),.lst 9 (.list []),.lst 9 (.list [])],.box [.nilf,.nilf,.nilf,.nilf],.row 9 (r0) true,.row 9 (N) true,.row 9 (r2) true,.row 9 (y.2) true,.box [.row 9 3,.row 9 4,.row 9 5,.row 9 6]]⟩) ?_;rintro⟨j,P⟩ ⟨B,z⟩;simp only at B z;cbv;constructor<;>intro h1
 ·have h5:j<i.deprecated.length:=lY X.a g h1;have E:=GV X.a hc.2.2.2.2 h5;have F:=E.1;have M:=iX X.a hc.2.2.2.2 h5;have H:=jX X.a h5;have I:A.fU (A.add (A.len P) (A.len (A.lit [[.str (A.bL (A.cell c (br j) 0))]]))) 4294967296:=by rw[X.a,z];simp only[SD,bQ];omega
  have G:A.app P (A.lit [[.str (A.bL (A.cell c (br j) 0))]])=bH encS ((i.deprecated.take (j+1)).map DE.name):=by rw[F,X.a,z,map_take h5];exact cx (k:=[i.deprecated[j].name])
  refine p1 ?_;exact⟨(j+1,_),⟨yP,G⟩,yP,[0,1,2,3,4,5,6,7],rfl,yc⟩
 have h5:j=p:=gY X.a g h1;rw[h5,u,bF]at z;clear h1 B;cbv;exact h r0 N r2 P v x s z
end
end Go.VC.cK
namespace Go.VC
section
variable {f:S->Bool}{s p:S}{l:List S}
def gT(f:S->Bool):Option S->List S->S×Int
 |_,[]=>([],0)
 |none,s::l=>if f s=false then(s,4)else gT f (some s) l
 |some p,s::l=>if f s=false then(s,4)else if s=p then(s,5)else if slt s p=true then(s,1)else gT f (some s) l
def fE(a b:S×Int):S×Int:=if a.2≠0 then a else b
def qy(s:S):Bool:=ie s||iT s
def oH(i:IF):S×Int:=fE (gT iT none (lh i)) (fE (gT ie none (kL i)) (fE (gT qy none (lK i)) (fE (gT qy none (qL i)) ([],0))))
def fM(l:List S)(j:Nat):Option S:=if j=0 then none else some (l.getD (j-1) [])
def mO{p:Option S}(h:f s=false):gT f p (s::l)=(s,4):=by cases p<;>rw[gT,if_pos h]
def uO(h:f s=true):gT f none (s::l)=gT f (some s) l:=by rw[gT,if_neg (by rw[h];decide)]
def uP(h:f s=true)(J:s=p):gT f (some p) (s::l)=(s,5):=by rw[gT,if_neg (by rw[h];decide),if_pos J]
def uQ(h:f s=true)(J:s≠p)(h3:slt s p=true):gT f (some p) (s::l)=(s,1):=by rw[gT,if_neg (by rw[h];decide),if_neg J,if_pos h3]
def uN(h:f s=true)(J:s≠p)(h3:slt s p=false):gT f (some p) (s::l)=gT f (some s) l:=by rw[gT,if_neg (by rw[h];decide),if_neg J,if_neg (by rw[h3];decide)]
def xh(g:S->Bool):List S->S×Int
 |[]=>([],0)
 |s::l=>if g s=true then(s,5)else xh g l
def rR(i:IF):S×Int:=fE (xh (lh i).contains (kL i)) (xh (λs=>(lh i).contains s||(kL i).contains s) (lK i))
def gQ{α:Type}(e:α->Int)(n:α->S):List α->S×Int
 |[]=>([],0)
 |x::l=>if e x≠0 then(n x,e x)else gQ e n l
noncomputable def ka(env:List IF)(i:IF):S×Int:=fE (gQ (nU env i) TE.name i.types) (fE (gQ (sM env) VE.name i.values) (gQ (j3 env) AE.name i.aliases))
end
end Go.VC
namespace Go.VC.cK
open Go Go.VC Go.Proofs
def Zv{i:IF}(hi:i.fit){de:D}{c0:S}{c1 c2 c3 c4:D}(hc:jN i c0 c1 c2 c3 c4){K:PV->List Ob->Prop}(h:∀(s:S)(r:Int),(s,r)=oH i->K (.tup [.str s,.int .i64 r]) []):
 FT 83 [] [rS de c0 c1 c2 c3 c4] K:=by
 refine en (cf 63) Tryz.func83 λA C L X=>?_;have Y:=fz X.a;have da:=Dh X.a;have u:=Dg X.a;have H:=Uo X.a;have R:∀k:Nat,k<4->A.inr .i64 (A.add (br k) 1):=by rw[X.a];exactλk hk=>ek hk yD
 have nT:=hi.nt;have nV:=hi.nv;have nA:=hi.na;have nD:=hi.nd;cbv;refine X.call (Rb hi hc λd0 Q d2 P ae ac aa ab=>?_);obtain⟨E0,aq⟩:∃x,x=gT iT none (lh i):=⟨_,rfl⟩;obtain⟨E1,ar⟩:∃x,x=gT ie none (kL i):=⟨_,rfl⟩;obtain⟨E2,av⟩:∃x,x=gT qy none (lK i):=⟨_,rfl⟩;obtain⟨E3,au⟩:∃x,x=gT qy none (qL i):=⟨_,rfl⟩;unfold oH at h;rw[<- aq,<-ar,<-av,<-au]at h;cbv;refine lu X (λk=>k<=4/\(0<k->E0.2=0)/\(1<k->E1.2=0)/\(2<k->E2.2=0)/\(3<k->E3.2=0)) (λk=>4-k) 0 ⟨bD _,yS,yS,yS,yS⟩ (λ(k:Nat)=>[(16,.int .i64 k)]) ?_;rintro k ⟨hk,w0,w1,w2,w3⟩;have aw:k=0\/k=1\/k=2\/k=3\/k=4:=yO;rcases aw with rfl|rfl|rfl|rfl|rfl
 ·have m:A.lt (br 0) 4=true:=by rw[da];rfl
  have n:A.lt (br 0) 4≠false:=by rw[m];decide
  have ai:(lh i).length<=1048576:=by rw[lh,bQ];exact nT
  have fL:∀s∈lh i,s.length<=4294967295:=by intro s hs;obtain⟨x,hx,rfl⟩:=bT.1 hs;exact bR (hi.t x hx).n yD
  have c:∀(s:S)(r:Int),E0=(s,r)->r≠0->(s,r)=fE E0 (fE E1 (fE E2 (fE E3 ([],0)))):=by intro s r e hr;rw[fE,if_pos (by rw[e];exact hr),e]
  obtain⟨W,ah,z⟩:=lenOf ae;cbv;refine⟨λh1=>?_,λh1=>absurd h1 n⟩;cbv;refine lu X (λj=>j<=W/\E0=gT iT (fM (lh i) j) ((lh i).drop j)) (λj=>W-j) 0 ⟨bD _,aq⟩ (λ(j:Nat)=>[(22,.int .i64 j)]) ?_;rintro j ⟨hj,d⟩;cbv;constructor<;>intro h1
  ·have h5:j<(lh i).length:=by obtain rfl:=X.a;simp only[z,SD]at h1;omega
   have an:=iX X.a ae h5;have q:=jX X.a h5;have a:A.bL (A.cell d0 (br j) 0)=(lh i)[j]:=by rw[cellAt X.a ae h5,X.a];rfl
   have O:(A.bL (A.cell d0 (br j) 0)).length<=4294967295:=by rw[a];exact fL _ (bx h5)
   have F:A.lt 0 (br j)=true->A.inr .i64 (A.sub (br j) 1):=by intro h;rw[da]at h;have h:=of_decide_eq_true h;rw[X.a];simp only[SD]at *;omega
   have E:A.lt 0 (br j)=true->A.idx (A.sub (br j) 1) (A.len d0):=by intro h;rw[da]at h;have h:=of_decide_eq_true h;rw[X.a]at *;simp only[z,SD]at *;omega
   have I:A.lt 0 (br j)=true->∃p,fM (lh i) j=some p/\A.bL (A.cell d0 (A.sub (br j) 1) 0)=p:=by
    intro h;rw[da]at h;have h:=of_decide_eq_true h;simp only[bz]at h;have B:j-1<(lh i).length:=yO;refine⟨(lh i)[j-1],?_,?_⟩
    ·rw[fM,if_neg yO];simp[cj,B]
    ·rw[show A.sub (br j) 1=br (j-1)by rw[X.a];simp only[SD];omega,cellAt X.a ae B,X.a];rfl
   have N:A.lt 0 (br j)=false->fM (lh i) j=none:=by intro h;rw[da]at h;have h:=of_decide_eq_false h;simp only[bz]at h;rw[fM,if_pos yO]
   have t:fM (lh i) (j+1)=some (lh i)[j]:=by rw[fM,if_neg yO];simp[cj,h5]
   obtain⟨sj,G⟩:∃x,x=(lh i)[j]:=⟨_,rfl⟩;rw[bM h5,<-G]at d;rw[<- G]at t a;refine p1 ?_;refine X.call (JJ O λb hb=>?_);have hb:b=iT sj:=by rw[<- a];exact hb
   cases o:A.lt 0 (br j)with
   |true=>
    obtain⟨p,M,g⟩:=I o;rw[M]at d;cbv;repeat' (first|apply bw|exact zf|(intro J;first|exact yB o J|cbv)|apply bG)
    any_goals first|exact q|exact F o|exact E o
    ·have J:A.not b=true:=yA;rw[Y,hb]at J;refine h _ _ (c _ _ ?_ yD);rw[d,mO (yU J)];exact dR a.symm rfl
    ·have J:A.not b=false:=yA;have h3:A.seq (A.bL (A.cell d0 (br j) 0)) (A.bL (A.cell d0 (A.sub (br j) 1) 0))=true:=yA;rw[Y,hb]at J;rw[a,g,u]at h3;refine h _ _ (c _ _ ?_ yD);rw[d,uP (yU J) (yU h3)];exact dR a.symm rfl
    ·have J:A.not b=false:=yA;have h3:A.seq (A.bL (A.cell d0 (br j) 0)) (A.bL (A.cell d0 (A.sub (br j) 1) 0))=false:=yA;have h4:A.slt (A.bL (A.cell d0 (br j) 0)) (A.bL (A.cell d0 (A.sub (br j) 1) 0))=true:=yA;rw[Y,hb]at J;rw[a,g,u]at h3;rw[a,g,H]at h4;refine h _ _ (c _ _ ?_ yD);rw[d,uQ (yU J) (yU h3) h4];exact dR a.symm rfl
    ·have J:A.not b=false:=yA;have h3:A.seq (A.bL (A.cell d0 (br j) 0)) (A.bL (A.cell d0 (A.sub (br j) 1) 0))=false:=yA;have h4:A.slt (A.bL (A.cell d0 (br j) 0)) (A.bL (A.cell d0 (A.sub (br j) 1) 0))=false:=yA;rw[Y,hb]at J;rw[a,g,u]at h3;rw[a,g,H]at h4;refine⟨j+1,⟨yO,?_⟩,yO,?_⟩
     ·rw[t,d,uN (yU J) (yU h3) h4]
     exact yc
   |false=>
    rw[N o]at d;cbv;repeat' (first|apply bw|exact zf|(intro J;first|exact yB o J|cbv)|apply bG)
    any_goals first|exact q
    ·have J:A.not b=true:=yA;rw[Y,hb]at J;refine h _ _ (c _ _ ?_ yD);rw[d,mO (yU J)];exact dR a.symm rfl
    ·have J:A.not b=false:=yA;rw[Y,hb]at J;refine⟨j+1,⟨yO,?_⟩,yO,?_⟩
     ·rw[t,d,uO (yU J)]
     exact yc
  ·have h5:j=W:=gY X.a z h1;rw[h5,ah,bZ]at d;have o:E0=([],0):=by rw[d];unfold gT;cases fM (lh i) ((lh i).length)<;>rfl
   have q:A.inr .i64 (A.add (br 0) 1):=R 0 yD;refine p1 ?_;exact⟨1,⟨yD,λ_=>by rw[o],λh=>absurd h yD,λh=>absurd h yD,λh=>absurd h yD⟩,yD,yc⟩
 ·have m:A.lt (br 1) 4=true:=by rw[da];rfl
  have n:A.lt (br 1) 4≠false:=by rw[m];decide
  have ai:(kL i).length<=1048576:=by rw[kL,bQ];exact nV
  have fL:∀s∈kL i,s.length<=4294967295:=by intro s hs;obtain⟨x,hx,rfl⟩:=bT.1 hs;exact bR (hi.v x hx).n yD
  have c:∀(s:S)(r:Int),E1=(s,r)->r≠0->(s,r)=fE E0 (fE E1 (fE E2 (fE E3 ([],0)))):=by intro s r e hr;rw[fE,if_neg (by rw[w0 yD];decide)];rw[fE,if_pos (by rw[e];exact hr),e]
  obtain⟨U,ak,w⟩:=lenOf ac;cbv;refine⟨λh1=>?_,λh1=>absurd h1 n⟩;cbv;refine lu X (λj=>j<=U/\E1=gT ie (fM (kL i) j) ((kL i).drop j)) (λj=>U-j) 0 ⟨bD _,ar⟩ (λ(j:Nat)=>[(22,.int .i64 j)]) ?_;rintro j ⟨hj,d⟩;cbv;constructor<;>intro h1
  ·have h5:j<(kL i).length:=by obtain rfl:=X.a;simp only[w,SD]at h1;omega
   have an:=iX X.a ac h5;have q:=jX X.a h5;have a:A.bL (A.cell Q (br j) 0)=(kL i)[j]:=by rw[cellAt X.a ac h5,X.a];rfl
   have O:(A.bL (A.cell Q (br j) 0)).length<=4294967295:=by rw[a];exact fL _ (bx h5)
   have F:A.lt 0 (br j)=true->A.inr .i64 (A.sub (br j) 1):=by intro h;rw[da]at h;have h:=of_decide_eq_true h;rw[X.a];simp only[SD]at *;omega
   have E:A.lt 0 (br j)=true->A.idx (A.sub (br j) 1) (A.len Q):=by intro h;rw[da]at h;have h:=of_decide_eq_true h;rw[X.a]at *;simp only[w,SD]at *;omega
   have I:A.lt 0 (br j)=true->∃p,fM (kL i) j=some p/\A.bL (A.cell Q (A.sub (br j) 1) 0)=p:=by
    intro h;rw[da]at h;have h:=of_decide_eq_true h;simp only[bz]at h;have B:j-1<(kL i).length:=yO;refine⟨(kL i)[j-1],?_,?_⟩
    ·rw[fM,if_neg yO];simp[cj,B]
    ·rw[show A.sub (br j) 1=br (j-1)by rw[X.a];simp only[SD];omega,cellAt X.a ac B,X.a];rfl
   have N:A.lt 0 (br j)=false->fM (kL i) j=none:=by intro h;rw[da]at h;have h:=of_decide_eq_false h;simp only[bz]at h;rw[fM,if_pos yO]
   have t:fM (kL i) (j+1)=some (kL i)[j]:=by rw[fM,if_neg yO];simp[cj,h5]
   obtain⟨sj,G⟩:∃x,x=(kL i)[j]:=⟨_,rfl⟩;rw[bM h5,<-G]at d;rw[<- G]at t a;refine p1 ?_;refine X.call (Ha O λb hb=>?_);have hb:b=ie sj:=by rw[<- a];exact hb
   cases o:A.lt 0 (br j)with
   |true=>
    obtain⟨p,M,g⟩:=I o;rw[M]at d;cbv;repeat' (first|apply bw|exact zf|(intro J;first|exact yB o J|cbv)|apply bG)
    any_goals first|exact q|exact F o|exact E o
    ·have J:A.not b=true:=yA;rw[Y,hb]at J;refine h _ _ (c _ _ ?_ yD);rw[d,mO (yU J)];exact dR a.symm rfl
    ·have J:A.not b=false:=yA;have h3:A.seq (A.bL (A.cell Q (br j) 0)) (A.bL (A.cell Q (A.sub (br j) 1) 0))=true:=yA;rw[Y,hb]at J;rw[a,g,u]at h3;refine h _ _ (c _ _ ?_ yD);rw[d,uP (yU J) (yU h3)];exact dR a.symm rfl
    ·have J:A.not b=false:=yA;have h3:A.seq (A.bL (A.cell Q (br j) 0)) (A.bL (A.cell Q (A.sub (br j) 1) 0))=false:=yA;have h4:A.slt (A.bL (A.cell Q (br j) 0)) (A.bL (A.cell Q (A.sub (br j) 1) 0))=true:=yA;rw[Y,hb]at J;rw[a,g,u]at h3;rw[a,g,H]at h4;refine h _ _ (c _ _ ?_ yD);rw[d,uQ (yU J) (yU h3) h4];exact dR a.symm rfl
    ·have J:A.not b=false:=yA;have h3:A.seq (A.bL (A.cell Q (br j) 0)) (A.bL (A.cell Q (A.sub (br j) 1) 0))=false:=yA;have h4:A.slt (A.bL (A.cell Q (br j) 0)) (A.bL (A.cell Q (A.sub (br j) 1) 0))=false:=yA;rw[Y,hb]at J;rw[a,g,u]at h3;rw[a,g,H]at h4;refine⟨j+1,⟨yO,?_⟩,yO,?_⟩
     ·rw[t,d,uN (yU J) (yU h3) h4]
     exact yc
   |false=>
    rw[N o]at d;cbv;repeat' (first|apply bw|exact zf|(intro J;first|exact yB o J|cbv)|apply bG)
    any_goals first|exact q
    ·have J:A.not b=true:=yA;rw[Y,hb]at J;refine h _ _ (c _ _ ?_ yD);rw[d,mO (yU J)];exact dR a.symm rfl
    ·have J:A.not b=false:=yA;rw[Y,hb]at J;refine⟨j+1,⟨yO,?_⟩,yO,?_⟩
     ·rw[t,d,uO (yU J)]
     exact yc
  ·have h5:j=U:=gY X.a w h1;rw[h5,ak,bZ]at d;have o:E1=([],0):=by rw[d];unfold gT;cases fM (kL i) ((kL i).length)<;>rfl
   have q:A.inr .i64 (A.add (br 1) 1):=R 1 yD;refine p1 ?_;exact⟨2,⟨yD,λ_=>w0 yD,λ_=>by rw[o],λh=>absurd h yD,λh=>absurd h yD⟩,yD,yc⟩
 ·have m:A.lt (br 2) 4=true:=by rw[da];rfl
  have n:A.lt (br 2) 4≠false:=by rw[m];decide
  have ai:(lK i).length<=1048576:=by rw[lK,bQ];exact nA
  have fL:∀s∈lK i,s.length<=4294967295:=by intro s hs;obtain⟨x,hx,rfl⟩:=bT.1 hs;exact bR (hi.a x hx).n yD
  have c:∀(s:S)(r:Int),E2=(s,r)->r≠0->(s,r)=fE E0 (fE E1 (fE E2 (fE E3 ([],0)))):=by intro s r e hr;rw[fE,if_neg (by rw[w0 yD];decide)];rw[fE,if_neg (by rw[w1 yD];decide)];rw[fE,if_pos (by rw[e];exact hr),e]
  obtain⟨T,ao,y⟩:=lenOf aa;cbv;refine⟨λh1=>?_,λh1=>absurd h1 n⟩;cbv;refine lu X (λj=>j<=T/\E2=gT qy (fM (lK i) j) ((lK i).drop j)) (λj=>T-j) 0 ⟨bD _,av⟩ (λ(j:Nat)=>[(22,.int .i64 j)]) ?_;rintro j ⟨hj,d⟩;cbv;constructor<;>intro h1
  ·have h5:j<(lK i).length:=by obtain rfl:=X.a;simp only[y,SD]at h1;omega
   have an:=iX X.a aa h5;have q:=jX X.a h5;have a:A.bL (A.cell d2 (br j) 0)=(lK i)[j]:=by rw[cellAt X.a aa h5,X.a];rfl
   have O:(A.bL (A.cell d2 (br j) 0)).length<=4294967295:=by rw[a];exact fL _ (bx h5)
   have F:A.lt 0 (br j)=true->A.inr .i64 (A.sub (br j) 1):=by intro h;rw[da]at h;have h:=of_decide_eq_true h;rw[X.a];simp only[SD]at *;omega
   have E:A.lt 0 (br j)=true->A.idx (A.sub (br j) 1) (A.len d2):=by intro h;rw[da]at h;have h:=of_decide_eq_true h;rw[X.a]at *;simp only[y,SD]at *;omega
   have I:A.lt 0 (br j)=true->∃p,fM (lK i) j=some p/\A.bL (A.cell d2 (A.sub (br j) 1) 0)=p:=by
    intro h;rw[da]at h;have h:=of_decide_eq_true h;simp only[bz]at h;have B:j-1<(lK i).length:=yO;refine⟨(lK i)[j-1],?_,?_⟩
    ·rw[fM,if_neg yO];simp[cj,B]
    ·rw[show A.sub (br j) 1=br (j-1)by rw[X.a];simp only[SD];omega,cellAt X.a aa B,X.a];rfl
   have N:A.lt 0 (br j)=false->fM (lK i) j=none:=by intro h;rw[da]at h;have h:=of_decide_eq_false h;simp only[bz]at h;rw[fM,if_pos yO]
   have t:fM (lK i) (j+1)=some (lK i)[j]:=by rw[fM,if_neg yO];simp[cj,h5]
   obtain⟨sj,G⟩:∃x,x=(lK i)[j]:=⟨_,rfl⟩;rw[bM h5,<-G]at d;rw[<- G]at t a;refine p1 ?_;refine X.call (TZ O λb hb=>?_);have hb:b=qy sj:=by rw[<- a];exact hb
   cases o:A.lt 0 (br j)with
   |true=>
    obtain⟨p,M,g⟩:=I o;rw[M]at d;cbv;repeat' (first|apply bw|exact zf|(intro J;first|exact yB o J|cbv)|apply bG)
    any_goals first|exact q|exact F o|exact E o
    ·have J:A.not b=true:=yA;rw[Y,hb]at J;refine h _ _ (c _ _ ?_ yD);rw[d,mO (yU J)];exact dR a.symm rfl
    ·have J:A.not b=false:=yA;have h3:A.seq (A.bL (A.cell d2 (br j) 0)) (A.bL (A.cell d2 (A.sub (br j) 1) 0))=true:=yA;rw[Y,hb]at J;rw[a,g,u]at h3;refine h _ _ (c _ _ ?_ yD);rw[d,uP (yU J) (yU h3)];exact dR a.symm rfl
    ·have J:A.not b=false:=yA;have h3:A.seq (A.bL (A.cell d2 (br j) 0)) (A.bL (A.cell d2 (A.sub (br j) 1) 0))=false:=yA;have h4:A.slt (A.bL (A.cell d2 (br j) 0)) (A.bL (A.cell d2 (A.sub (br j) 1) 0))=true:=yA;rw[Y,hb]at J;rw[a,g,u]at h3;rw[a,g,H]at h4;refine h _ _ (c _ _ ?_ yD);rw[d,uQ (yU J) (yU h3) h4];exact dR a.symm rfl
    ·have J:A.not b=false:=yA;have h3:A.seq (A.bL (A.cell d2 (br j) 0)) (A.bL (A.cell d2 (A.sub (br j) 1) 0))=false:=yA;have h4:A.slt (A.bL (A.cell d2 (br j) 0)) (A.bL (A.cell d2 (A.sub (br j) 1) 0))=false:=yA;rw[Y,hb]at J;rw[a,g,u]at h3;rw[a,g,H]at h4;refine⟨j+1,⟨yO,?_⟩,yO,?_⟩
     ·rw[t,d,uN (yU J) (yU h3) h4]
     exact yc
   |false=>
    rw[N o]at d;cbv;repeat' (first|apply bw|exact zf|(intro J;first|exact yB o J|cbv)|apply bG)
    any_goals first|exact q
    ·have J:A.not b=true:=yA;rw[Y,hb]at J;refine h _ _ (c _ _ ?_ yD);rw[d,mO (yU J)];exact dR a.symm rfl
    ·have J:A.not b=false:=yA;rw[Y,hb]at J;refine⟨j+1,⟨yO,?_⟩,yO,?_⟩
     ·rw[t,d,uO (yU J)]
     exact yc
  ·have h5:j=T:=gY X.a y h1;rw[h5,ao,bZ]at d;have o:E2=([],0):=by rw[d];unfold gT;cases fM (lK i) ((lK i).length)<;>rfl
   have q:A.inr .i64 (A.add (br 2) 1):=R 2 yD;refine p1 ?_;exact⟨3,⟨yD,λ_=>w0 yD,λ_=>w1 yD,λ_=>by rw[o],λh=>absurd h yD⟩,yD,yc⟩
 ·have m:A.lt (br 3) 4=true:=by rw[da];rfl
  have n:A.lt (br 3) 4≠false:=by rw[m];decide
  have ai:(qL i).length<=1048576:=by rw[qL,bQ];exact nD
  have fL:∀s∈qL i,s.length<=4294967295:=by intro s hs;obtain⟨x,hx,rfl⟩:=bT.1 hs;exact bR (hi.d x hx).n yD
  have c:∀(s:S)(r:Int),E3=(s,r)->r≠0->(s,r)=fE E0 (fE E1 (fE E2 (fE E3 ([],0)))):=by intro s r e hr;rw[fE,if_neg (by rw[w0 yD];decide)];rw[fE,if_neg (by rw[w1 yD];decide)];rw[fE,if_neg (by rw[w2 yD];decide)];rw[fE,if_pos (by rw[e];exact hr),e]
  obtain⟨V,al,v⟩:=lenOf ab;cbv;refine⟨λh1=>?_,λh1=>absurd h1 n⟩;cbv;refine lu X (λj=>j<=V/\E3=gT qy (fM (qL i) j) ((qL i).drop j)) (λj=>V-j) 0 ⟨bD _,au⟩ (λ(j:Nat)=>[(22,.int .i64 j)]) ?_;rintro j ⟨hj,d⟩;cbv;constructor<;>intro h1
  ·have h5:j<(qL i).length:=by obtain rfl:=X.a;simp only[v,SD]at h1;omega
   have an:=iX X.a ab h5;have q:=jX X.a h5;have a:A.bL (A.cell P (br j) 0)=(qL i)[j]:=by rw[cellAt X.a ab h5,X.a];rfl
   have O:(A.bL (A.cell P (br j) 0)).length<=4294967295:=by rw[a];exact fL _ (bx h5)
   have F:A.lt 0 (br j)=true->A.inr .i64 (A.sub (br j) 1):=by intro h;rw[da]at h;have h:=of_decide_eq_true h;rw[X.a];simp only[SD]at *;omega
   have E:A.lt 0 (br j)=true->A.idx (A.sub (br j) 1) (A.len P):=by intro h;rw[da]at h;have h:=of_decide_eq_true h;rw[X.a]at *;simp only[v,SD]at *;omega
   have I:A.lt 0 (br j)=true->∃p,fM (qL i) j=some p/\A.bL (A.cell P (A.sub (br j) 1) 0)=p:=by
    intro h;rw[da]at h;have h:=of_decide_eq_true h;simp only[bz]at h;have B:j-1<(qL i).length:=yO;refine⟨(qL i)[j-1],?_,?_⟩
    ·rw[fM,if_neg yO];simp[cj,B]
    ·rw[show A.sub (br j) 1=br (j-1)by rw[X.a];simp only[SD];omega,cellAt X.a ab B,X.a];rfl
   have N:A.lt 0 (br j)=false->fM (qL i) j=none:=by intro h;rw[da]at h;have h:=of_decide_eq_false h;simp only[bz]at h;rw[fM,if_pos yO]
   have t:fM (qL i) (j+1)=some (qL i)[j]:=by rw[fM,if_neg yO];simp[cj,h5]
   obtain⟨sj,G⟩:∃x,x=(qL i)[j]:=⟨_,rfl⟩;rw[bM h5,<-G]at d;rw[<- G]at t a;refine p1 ?_;refine X.call (TZ O λb hb=>?_);have hb:b=qy sj:=by rw[<- a];exact hb
   cases o:A.lt 0 (br j)with
   |true=>
    obtain⟨p,M,g⟩:=I o;rw[M]at d;cbv;repeat' (first|apply bw|exact zf|(intro J;first|exact yB o J|cbv)|apply bG)
    any_goals first|exact q|exact F o|exact E o
    ·have J:A.not b=true:=yA;rw[Y,hb]at J;refine h _ _ (c _ _ ?_ yD);rw[d,mO (yU J)];exact dR a.symm rfl
    ·have J:A.not b=false:=yA;have h3:A.seq (A.bL (A.cell P (br j) 0)) (A.bL (A.cell P (A.sub (br j) 1) 0))=true:=yA;rw[Y,hb]at J;rw[a,g,u]at h3;refine h _ _ (c _ _ ?_ yD);rw[d,uP (yU J) (yU h3)];exact dR a.symm rfl
    ·have J:A.not b=false:=yA;have h3:A.seq (A.bL (A.cell P (br j) 0)) (A.bL (A.cell P (A.sub (br j) 1) 0))=false:=yA;have h4:A.slt (A.bL (A.cell P (br j) 0)) (A.bL (A.cell P (A.sub (br j) 1) 0))=true:=yA;rw[Y,hb]at J;rw[a,g,u]at h3;rw[a,g,H]at h4;refine h _ _ (c _ _ ?_ yD);rw[d,uQ (yU J) (yU h3) h4];exact dR a.symm rfl
    ·have J:A.not b=false:=yA;have h3:A.seq (A.bL (A.cell P (br j) 0)) (A.bL (A.cell P (A.sub (br j) 1) 0))=false:=yA;have h4:A.slt (A.bL (A.cell P (br j) 0)) (A.bL (A.cell P (A.sub (br j) 1) 0))=false:=yA;rw[Y,hb]at J;rw[a,g,u]at h3;rw[a,g,H]at h4;refine⟨j+1,⟨yO,?_⟩,yO,?_⟩
     ·rw[t,d,uN (yU J) (yU h3) h4]
     exact yc
   |false=>
    rw[N o]at d;cbv;repeat' (first|apply bw|exact zf|(intro J;first|exact yB o J|cbv)|apply bG)
    any_goals first|exact q
    ·have J:A.not b=true:=yA;rw[Y,hb]at J;refine h _ _ (c _ _ ?_ yD);rw[d,mO (yU J)];exact dR a.symm rfl
    ·have J:A.not b=false:=yA;rw[Y,hb]at J;refine⟨j+1,⟨yO,?_⟩,yO,?_⟩
     ·rw[t,d,uO (yU J)]
     exact yc
  ·have h5:j=V:=gY X.a v h1;rw[h5,al,bZ]at d;have o:E3=([],0):=by rw[d];unfold gT;cases fM (qL i) ((qL i).length)<;>rfl
   have q:A.inr .i64 (A.add (br 3) 1):=R 3 yD;refine p1 ?_;exact⟨4,⟨yD,λ_=>w0 yD,λ_=>w1 yD,λ_=>w2 yD,λ_=>by rw[o]⟩,yD,yc⟩
 ·have m:A.lt (br 4) 4=false:=by rw[da];rfl
  have n:A.lt (br 4) 4≠true:=by rw[m];decide
  cbv;refine⟨λh1=>absurd h1 n,λh1=>?_⟩;cbv;refine h [] 0 ?_;rw[fE,if_neg (by rw[w0 yD];decide),fE,if_neg (by rw[w1 yD];decide),fE,if_neg (by rw[w2 yD];decide),fE,if_neg (by rw[w3 yD];decide)]
end Go.VC.cK
namespace Go.VC
def zG{α:Type}{e:α->Int}{n:α->S}:∀{l:List α},(∀x∈l,e x=0)->gQ e n l=([],0)
 |[],_=>rfl
 |x::l,h=>by rw[gQ,if_neg (by rw[h x yS];decide)];exact zG λy f=>h y (by simp[f])
end Go.VC
namespace Go.VC.cK
open Go Go.VC Go.Proofs
section
variable {i:IF}{d c1 c2 a c:D}{b:S}{K:PV->List Ob->Prop}
def Zu(N:i.fit)(hc:jN i b c1 c2 a c)(h:∀(s:S)(r:Int),(s,r)=rR i->K (.tup [.str s,.int .i64 r]) []):
 FT 84 [] [rS d b c1 c2 a c] K:=by
 refine en (cf 47) Tryz.func84 λA C L X=>?_;have T:(lh i).length<=4294967295:=by rw[lh,bQ];exact N.ok.nt
 have U:(kL i).length<=4294967295:=by rw[kL,bQ];exact N.ok.nv
 have nA:(lK i).length<=4294967295:=by rw[lK,bQ];exact N.ok.na
 cbv;refine X.call (Rb N hc λd0 d1 d2 d3 M q v W=>?_);obtain⟨u,p⟩:∃G:S->Bool,∀s,(lh i).contains s=G s:=⟨λs=>(lh i).contains s,λ_=>rfl⟩;obtain⟨O,I⟩:∃G:S->Bool,∀s,(kL i).contains s=G s:=⟨λs=>(kL i).contains s,λ_=>rfl⟩;obtain⟨E0,w⟩:∃x,x=xh u (kL i):=⟨_,rfl⟩;obtain⟨R,z⟩:∃x,x=xh (λs=>u s||O s) (lK i):=⟨_,rfl⟩;have V:rR i=fE E0 R:=by rw[w,z];unfold rR;rw[show (lh i).contains=u from funext p,show (kL i).contains=O from funext I]
 rw[V]at h;obtain⟨n,y,g⟩:=lenOf q;cbv;refine lu X (λj=>j<=n/\E0=xh u ((kL i).drop j)) (λj=>n-j) 0 ⟨bD _,w⟩ (λ(j:Nat)=>[(18,.int .i64 j)]) ?_;rintro j ⟨Q,k⟩;cbv;constructor<;>intro h1
 ·have h5:j<(kL i).length:=by obtain rfl:=X.a;simp only[g,SD]at h1;omega
  have E:=iX X.a q h5;have B:=jX X.a h5;have e:A.bL (A.cell d1 (br j) 0)=(kL i)[j]:=by rw[cellAt X.a q h5,X.a];rfl
  obtain⟨H,o⟩:∃x,x=(kL i)[j]:=⟨_,rfl⟩;rw[bM h5,<-o,xh]at k;rw[<- o]at e;cbv;repeat' (first|apply bw|exact zf|(intro J;cbv)|apply bG|(refine X.call (JL M T λb1 f=>?_);cbv))
  any_goals first|exact E|exact B
  ·have f:b1=u H:=by rw[<- p,<-e];exact f
   refine h _ 5 ?_;rw[if_pos (by rw[<- f,J])]at k;rw[k,fE,if_pos (show (5:Int)≠0 by decide)];exact dR e rfl
  ·have J:b1=false:=yA;have f:b1=u H:=by rw[<- p,<-e];exact f
   rw[if_neg (by rw[<- f,J];decide)]at k;refine⟨j+1,⟨by omega,k⟩,by omega,?_⟩;exact yc
 have h5:j=n:=gY X.a g h1;have P:E0=([],0):=by rw[k,h5,y,bZ];rfl
 clear k h1 h5 Q w;obtain⟨m,F,l⟩:=lenOf v;cbv;refine lu X (λj=>j<=m/\R=xh (λs=>u s||O s) ((lK i).drop j)) (λj=>m-j) 0 ⟨bD _,z⟩ (λ(j:Nat)=>[(31,.int .i64 j)]) ?_;rintro j ⟨Q,k⟩;cbv;constructor<;>intro h1
 ·have h5:j<(lK i).length:=by obtain rfl:=X.a;simp only[l,SD]at h1;omega
  have E:=iX X.a v h5;have B:=jX X.a h5;have e:A.bL (A.cell d2 (br j) 0)=(lK i)[j]:=by rw[cellAt X.a v h5,X.a];rfl
  obtain⟨H,o⟩:∃x,x=(lK i)[j]:=⟨_,rfl⟩;rw[bM h5,<-o,xh]at k;rw[<- o]at e;cbv;repeat' (first|apply bw|exact zf|(intro J;cbv)|apply bG|(refine X.call (JL M T λb1 f=>?_);cbv)|(refine X.call (JL q U λb2 t=>?_);cbv))
  any_goals first|exact E|exact B
  all_goals have f:b1=u H:=by rw[<- p,<-e];exact f
  all_goals (try have t:b2=O H:=by rw[<- I,<-e];exact t)
  ·refine h _ 5 ?_;rw[if_pos (by rw[<- t,J,ow])]at k;rw[P,k,fE,if_neg yD];exact dR e rfl
  ·have J:b2=false:=yA;have h3:b1=false:=yA;rw[if_neg (by rw[<- f,<-t,J,h3];decide)]at k;refine⟨j+1,⟨by omega,k⟩,by omega,?_⟩;exact yc
  ·have J:b1=true:=yA;refine h _ 5 ?_;rw[if_pos (by rw[<- f,J,xR])]at k;rw[P,k,fE,if_neg (by decide)];exact dR e rfl
 have h5:j=m:=gY X.a l h1;have z1:R=([],0):=by rw[k,h5,F,bZ];rfl
 clear k h1 h5 Q z;cbv;refine h [] 0 ?_;rw[P,z1];rfl
def Zt{env:List IF}(O:d=bH dC env)(G:dW env)(F:i.fit)(hc:jN i b c1 c2 a c)(h:∀(s:S)(r:Int),(s,r)=ka env i->K (.tup [.str s,.int .i64 r]) []):
 FT 85 [] [rS d b c1 c2 a c] K:=by
 refine en (cf 64) Tryz.func85 λA C L X=>?_;have Y:=fz X.a;have Z:=mI X.a;have nt:=F.nt;have nv:=F.nv;have na:=F.na;obtain⟨E0,B⟩:∃x,x=gQ (nU env i) TE.name i.types:=⟨_,rfl⟩;obtain⟨Q,E⟩:∃x,x=gQ (sM env) VE.name i.values:=⟨_,rfl⟩;obtain⟨E2,H⟩:∃x,x=gQ (j3 env) AE.name i.aliases:=⟨_,rfl⟩;unfold ka at h;rw[<- B,<-E,<-H]at h;obtain⟨p,q⟩:∃n,n=i.types.length:=⟨_,rfl⟩;have g:Std.len c1=br p:=by rw[hc.2.1,cT,q];rfl
 cbv;refine lp X (λj=>j<=p/\E0=gQ (nU env i) TE.name (i.types.drop j)) (λj=>p-j) 0 ⟨bD _,B⟩ (λ(j:Nat)=>⟨[(17,.int .i64 j),(16,.int .i64 (A.len c1)),(15,.lst 45 c1),(1,.box 0 0)],[.box [.lst 51 d,.str b,.lst 45 c1,.lst 99 c2,.lst 141 a,.lst 152 c]]⟩) ?_;rintro j ⟨M,e⟩;cbv;constructor<;>intro h1
 ·have h5:j<i.types.length:=lY X.a g h1;have z:=nx X.a hc.2.1 h5;have I:=z.1;have y:=iX X.a hc.2.1 h5;have u:=jX X.a h5;rw[bM h5,gQ]at e;cbv;repeat' (first|apply bw|exact zf|(intro J;cbv)|apply bG)
  any_goals exact y
  refine X.call (Xs O G F (F.t _ (bx h5)) hc z λl w=>?_);rw[<- w]at e;cbv;repeat' (first|apply bw|exact zf|(intro J;cbv)|apply bG)
  any_goals exact u
  ·have J:A.not (A.eq l 0)=true:=yA;rw[Y,Z]at J;rw[if_pos (yU J)]at e;refine h _ l ?_;rw[e,fE,if_pos (show l≠0 by simpa using J)];exact dR I rfl
  ·have J:A.not (A.eq l 0)=false:=by assumption
   rw[Y,Z]at J;have h4:l=0:=yU J;rw[if_neg (by rw[h4];decide)]at e;exact⟨j+1,⟨yO,e⟩,yO,yc⟩
 have h5:j=p:=gY X.a g h1;have N:E0=([],0):=by rw[e,h5,q,bZ];rfl
 clear e h1 h5 M B;obtain⟨m,t⟩:∃n,n=i.values.length:=⟨_,rfl⟩;have k:Std.len c2=br m:=by rw[hc.2.2.1,cT,t];rfl
 cbv;refine lp X (λj=>j<=m/\Q=gQ (sM env) VE.name (i.values.drop j)) (λj=>m-j) 0 ⟨bD _,E⟩ (λ(j:Nat)=>⟨[(34,.int .i64 j),(33,.int .i64 (A.len c2)),(32,.lst 99 c2),(1,.box 0 0)],[.box [.lst 51 d,.str b,.lst 45 c1,.lst 99 c2,.lst 141 a,.lst 152 c]]⟩) ?_;rintro j ⟨M,e⟩;cbv;constructor<;>intro h1
 ·have h5:j<i.values.length:=lY X.a k h1;have z:=pL X.a hc.2.2.1 h5;have I:=z.1;have y:=iX X.a hc.2.2.1 h5;have u:=jX X.a h5;rw[bM h5,gQ]at e;cbv;repeat' (first|apply bw|exact zf|(intro J;cbv)|apply bG)
  any_goals exact y
  refine X.call (Xr O G (F.v _ (bx h5)) z λl w=>?_);rw[<- w]at e;cbv;repeat' (first|apply bw|exact zf|(intro J;cbv)|apply bG)
  any_goals exact u
  ·have J:A.not (A.eq l 0)=true:=yA;rw[Y,Z]at J;rw[if_pos (yU J)]at e;refine h _ l ?_;rw[N,e,fE,if_neg yD,fE,if_pos (show l≠0 by simpa using J)];exact dR I rfl
  ·have J:A.not (A.eq l 0)=false:=yA;rw[Y,Z]at J;have h4:l=0:=yU J;rw[if_neg (by rw[h4];decide)]at e;exact⟨j+1,⟨yO,e⟩,yO,yc⟩
 have h5:j=m:=gY X.a k h1;have P:Q=([],0):=by rw[e,h5,t,bZ];rfl
 clear e h1 h5 M E;obtain⟨o,v⟩:∃n,n=i.aliases.length:=⟨_,rfl⟩;have f:Std.len a=br o:=by rw[hc.2.2.2.1,cT,v];rfl
 cbv;refine lp X (λj=>j<=o/\E2=gQ (j3 env) AE.name (i.aliases.drop j)) (λj=>o-j) 0 ⟨bD _,H⟩ (λ(j:Nat)=>⟨[(51,.int .i64 j),(50,.int .i64 (A.len a)),(49,.lst 141 a),(1,.box 0 0)],[.box [.lst 51 d,.str b,.lst 45 c1,.lst 99 c2,.lst 141 a,.lst 152 c]]⟩) ?_;rintro j ⟨M,e⟩;cbv;constructor<;>intro h1
 ·have h5:j<i.aliases.length:=lY X.a f h1;have z:=tU X.a hc.2.2.2.1 h5;have I:=z.1;have y:=iX X.a hc.2.2.2.1 h5;have u:=jX X.a h5;rw[bM h5,gQ]at e;cbv;repeat' (first|apply bw|exact zf|(intro J;cbv)|apply bG)
  any_goals exact y
  refine X.call (Xq O G (F.a _ (bx h5)) z λl w=>?_);rw[<- w]at e;cbv;repeat' (first|apply bw|exact zf|(intro J;cbv)|apply bG)
  any_goals exact u
  ·have J:A.not (A.eq l 0)=true:=yA;rw[Y,Z]at J;rw[if_pos (yU J)]at e;refine h _ l ?_;rw[N,P,e,fE,if_neg yD,fE,if_neg yD];exact dR I rfl
  ·have J:A.not (A.eq l 0)=false:=by assumption
   rw[Y,Z]at J;have h4:l=0:=yU J;rw[if_neg (by rw[h4];decide)]at e;exact⟨j+1,⟨yO,e⟩,yO,yc⟩
 have h5:j=o:=gY X.a f h1;have R:E2=([],0):=by rw[e,h5,v,bZ];rfl
 clear e h1 h5 M H;cbv;refine h [] 0 ?_;rw[N,P,R];rfl
end
end Go.VC.cK
namespace Go.VC
open Go
section
section
variable {P:Program}{tt:TypeId->Option TI}{f:FuncId}{args:List PV}{K:PV->List Ob->Prop}
def FC.NO{e:TypeId}(k:∀args w,(callFunc f args).run P w= .ok (.enter f args) w)
 (h:∀E Pp w vals,WR tt E Pp [] w->fe tt E Pp vals args->Calls P f ⟨vals⟩ w λg w'=>g= .returned (.slice none 0 0)/\w'=w) (n:K (.row e 0) [.row e (.list []) true]):FC P tt f [] args K:=by
 intro E Pp w vals c l;refine .inl ⟨k _ _,(h E Pp w vals c l).mono ?_⟩;rintro g w' ⟨rfl,rfl⟩;have d:E=[]:=cz (by have:=c.len;simpa using this);subst d;refine⟨_,[.row0],Pp,[.row e (.list []) true],.row e 0,rfl,λi x q=>yE q,λ_ _ h=>h,?_,.row0 _ _ rfl,n,Fr.refl _ _,λ_ _ h=>.inl h,?_⟩
 ·refine⟨rfl,c.pi,?_,?_,c.gl⟩
  ·intro i o a hl;cases i with
   |succ i=>simp at a
   |zero=>simp at a;subst a;exact⟨_,rfl,rfl⟩
  ·intro i j oi oj ri rj b p m _ _ _ _ _ _;cases i<;>cases j<;>simp at p m ⊢
 ·intro i o ri b a hl hr hb;cases i with
  |succ i=>simp at a
  |zero=>simp at hr;subst hr;simp[RI.du]at hb
end
def uL(i:IF):List DE->S×Int
 |[]=>([],0)
 |x::l=>if(lh i++kL i++lK i).contains x.name=false then(x.name,6)else if 65536<x.note.length then(x.name,7)else uL i l
def nC(i:IF):S×Int:=uL i i.deprecated
end
end Go.VC
namespace Go.VC.cK
open Go Go.VC Go.Proofs
section
variable {K:PV->List Ob->Prop}
def W0{n:Nat}(v:n<=4294967296)(h:K (.row 9 0) [.row 9 (.list []) true]):FT 179 [] [.nF,.int .i64 (br n)] K:=by
 by_cases h0:n=0
 ·subst h0;refine FC.NO (enters_of Tryz.func179 (by kernel_rfl) rfl) (λE Pp w vals q b=>?_) h;cases b with|cons v1 _ _ _ h1 b=>cases b with|cons v2 _ _ _ J b=>
  cases b;cases h1;cases J;refine(Any8.slices_Grow_room Tryz.Es none 0 0 0 w yD yD yD yD).mono ?_;rintro e w' ⟨rfl,rfl⟩;exact⟨rfl,rfl⟩
 ·refine FC.newRow (e:=9) (rows:=[]) (enters_of Tryz.func179 (by kernel_rfl) rfl) (λE Pp w vals q b=>?_) h;cases b with|cons v1 _ _ _ h1 b=>cases b with|cons v2 _ _ _ J b=>
  cases b;cases h1;cases J;obtain⟨ti,j,k,c,m⟩:∃ti,tt 9=some ti/\ti.cd=[.str]/\ti.bytes=16/\ti.agg=false:=⟨_,rfl,rfl,rfl,rfl⟩;obtain⟨p,z,_,o,hs,hb,u,s,g,_⟩:=(eX 9 ti j).info;have d:p.size=1:=by rw[hs,k];rfl
  have l:z.cells.size=1:=by rw[g.2 m];rfl
  refine(Any8.slices_Grow_grow Tryz.Es p z o u (by rw[d];decide) none 0 0 n [] w yD yO ?_ yO yS (λ_=>rfl) (λa ha=>yC ha)).mono ?_
  ·rw[hb,c];omega
  rintro e w' ⟨rfl,rfl⟩;refine⟨_,1,_,rfl,rfl,bD _,?_,?_⟩
  ·rw[Mb];show grownCap w (0+n) 0 9*1<=M0 _;have r:=grownCap_ge w (0+n) 0 9;show grownCap w (0+n) 0 9*1<=M0 ([].toArray++Builtin.zeroCells z.cells (0+n-0)++Builtin.zeroCells z.cells (grownCap w (0+n) 0 9-(0+n)));generalize grownCap w (0+n) 0 9=G at r ⊢;simp only[Array.size_append,Builtin.zeroCells,Df,Array.size_range,l];simp;omega
  ·intro i row t;simp at t
def S0:eE:={tt:=tt,n:=36,own:=[6],live:=[179]}
def Xp{b:List (List S)}{d:D}(hd:d=bH Py b)(hl:b.length<=16)(z:∀l∈b,l.length<=1048576)(h:∀r,r=bH encS b.flatten->K (.row 9 0) [.row 9 r true]):
 FT 125 [] [.lst 59 d] K:=by
 refine eo S0 Tryz.func125 λA C L X=>?_;obtain⟨i,m,a⟩:=lenOf hd;cbv;refine lu X (λj=>j.1<=i/\j.2=((b.take j.1).map jt).sum/\j.2<=1048576*j.1) (λj=>i-j.1) (0,0) ⟨bD _,rfl,bD _⟩ (λ(j:Nat×Nat)=>[(11,.int .i64 j.1),(3,.int .i64 j.2)]) ?_;rintro⟨j,k⟩ ⟨H,hk,y⟩;simp only at H hk y;have F:A.lt (br k) 0=false:=by rw[X.a];simp only[SD];omega
 cbv;constructor<;>intro h1
 ·have h5:j<b.length:=lY X.a a h1;have v:=iX X.a hd h5;have s:=jX X.a h5;have c:A.cell d (br j) 0=bH encS b[j]:=by rw[cellAt X.a hd h5];rfl
  have e:A.len (A.cell d (br j) 0)=br b[j].length:=by rw[c,X.a,cT];rfl
  have M:=z _ (bx h5);have g:A.add (br k) (A.len (A.cell d (br j) 0))=br (k+b[j].length):=by rw[e,X.a];rfl
  have w:A.inr .i64 (A.add (br k) (A.len (A.cell d (br j) 0))):=by rw[g,X.a];simp only[SD];omega
  have o:A.lt (A.add (br k) (A.len (A.cell d (br j) 0))) 0=false:=by rw[g,X.a];simp only[SD];omega
  cbv;repeat' (first|apply bw|exact zf|(intro J;first|exact yB o J|cbv)|apply bG)
  any_goals first|exact v|exact s|exact w
  obtain⟨E,u⟩:∃E,E=k+b[j].length:=⟨_,rfl⟩;rw[<- u]at g;refine⟨(j+1,E),⟨yP,?_,yP⟩,yP,?_⟩
  ·simp only;rw[bX h5,cg,ea,<-hk,u];simp
  exact yc;all_goals exact g
 have h5:j=i:=gY X.a a h1;have x:k<=4294967296:=yO;have n:k=(b.map jt).sum:=by rw[hk,h5,m,bF]
 clear hk h1;cbv;refine X.call (W0 x ?_);cbv;refine lP X (λj=>j.1<=i/\j.2=bH encS (b.take j.1).flatten) (λj=>i-j.1) (0,.list []) ⟨bD _,rfl⟩ [0] (λ(j:Nat×D)=>⟨[(27,.int .i64 j.1),(26,.int .i64 (A.len d)),(25,.lst 59 d),(6,.row 9 0)],[.row 9 j.2 true]⟩) ?_;rintro⟨q,r⟩ ⟨G,hr⟩;simp only at G hr;cbv;constructor<;>intro h1
 ·have h5:q<b.length:=lY X.a a h1;have v:=iX X.a hd h5;have s:=jX X.a h5;have c:A.cell d (br q) 0=bH encS b[q]:=by rw[cellAt X.a hd h5];rfl
  have e:A.len (A.cell d (br q) 0)=br b[q].length:=by rw[c,X.a,cT];rfl
  have t:(b.take (q+1)).flatten=(b.take q).flatten++b[q]:=by rw[bX h5,List.flatten_append];simp
  have B:((b.take (q+1)).flatten).length<=k:=by
   rw[n,List.length_flatten];have:(b.map jt).sum=((b.take (q+1)).map jt).sum+((b.drop (q+1)).map jt).sum:=by rw[<- ea,<-cg,dG]
   omega
  have p:A.app r (A.cell d (br q) 0)=bH encS (b.take (q+1)).flatten:=by rw[t,c,X.a,hr];exact cx
  have I:A.fU (A.add (A.len r) (A.len (A.cell d (br q) 0))) 4294967296:=by rw[e,X.a,hr,cT];rw[t,bE]at B;simp only[SD];omega
  refine p1 ?_;exact⟨(q+1,_),⟨yP,p⟩,yP,[0],rfl,yc⟩
 have h5:q=i:=gY X.a a h1;rw[h5,m,bF]at hr;cbv;exact h r hr
def Zs{i:IF}(p:i.fit){F:D}{z:S}{c1 c2 w e:D}(hc:jN i z c1 c2 w e)(h:∀(s:S)(r:Int),(s,r)=nC i->K (.tup [.str s,.int .i64 r]) []):
 FT 86 [] [rS F z c1 c2 w e] K:=by
 refine en Yz Tryz.func86 λA C L X=>?_;have N:(lh i).length<=1048576:=by rw[lh,bQ];exact p.nt
 have M:(kL i).length<=1048576:=by rw[kL,bQ];exact p.nv
 have Q:(lK i).length<=1048576:=by rw[lK,bQ];exact p.na
 cbv;refine X.call (Rb p hc λd0 E d2 G y u q H=>?_);obtain⟨c,d⟩:∃n,n=i.deprecated.length:=⟨_,rfl⟩;have a:Std.len e=br c:=by rw[hc.2.2.2.2,cT,d];rfl
 cbv;refine X.K8 (λ(j:Nat)=>⟨[(17,.int .i64 j),(16,.int .i64 (A.len e)),(15,.lst 152 e),(5,.box 1 0),(4,.cR [.lst 9 d0,.lst 9 E,.lst 9 d2,.lst 9 G] 0),(1,.box 0 0)],[.box [.lst 51 F,.str z,.lst 45 c1,.lst 99 c2,.lst 141 w,.lst 152 e],.box [.cy 165 [],.cy 166 [],.cy 167 [],.cy 167 []]]⟩) (λj=>j<=c/\nC i=uL i (i.deprecated.drop j)) (λj=>c-j) 0 ⟨bD _,rfl⟩ ?_ ?_
 ·exact⟨[],[1],[0,2],rfl,yc⟩
 rintro j ⟨O,g⟩;cbv;constructor<;>intro h1
 ·have h5:j<i.deprecated.length:=lY X.a a h1;have B:=GV X.a hc.2.2.2.2 h5;have I:=iX X.a hc.2.2.2.2 h5;have v:A.inr .i64 (A.add (br j) 1):=by rw[X.a];exact ek h5 (by have:=p.nd;omega)
  have m:A.lit [[d0],[E],[d2]]=bH Py [lh i,kL i,lK i]:=by rw[X.a,y,u,q];rfl
  have o:∀l∈[lh i,kL i,lK i],l.length<=1048576:=by intro l hl;simp at hl;rcases hl with rfl|rfl|rfl<;>assumption
  rw[bM h5,uL]at g;refine p1 ?_;refine X.call (Xp m (show (3:Nat)<=16 by decide) o λr hr=>?_);have hr:r=bH encS (lh i++kL i++lK i):=by rw[hr];simp
  have x:(lh i++kL i++lK i).length<=4294967295:=yL;have Y:=fz X.a;have k:A.lt 65536 (A.dz (A.bL (A.cell e (br j) 1)))=decide (65536<i.deprecated[j].note.length):=by rw[B.2,X.a];show decide ((65536:Int)<(i.deprecated[j].note.length:Int))=_;rw[decide_eq_decide];omega
  have t:A.bL (A.cell e (br j) 0)=i.deprecated[j].name:=B.1;cbv;refine X.call (JL hr x λb hb=>?_);have hb:b=(lh i++kL i++lK i).contains i.deprecated[j].name:=by rw[<- t];exact hb
  rw[show List.elem i.deprecated[j].name (lh i++kL i++lK i)=b from hb.symm]at g;clear hb;cbv;repeat' (first|apply bw|exact zf|(intro J;cbv)|apply bG)
  any_goals exact v
  ·have J:A.not b=true:=yA;rw[Y]at J;rw[if_pos (yU J)]at g;refine h _ 6 ?_;rw[g];exact dR t rfl
  ·have J:A.not b=false:=yA;have h3:A.lt 65536 (A.dz (A.bL (A.cell e (br j) 1)))=true:=yA;rw[Y]at J;rw[k]at h3;rw[if_neg (yU J),if_pos (of_decide_eq_true h3)]at g;refine h _ 7 ?_;rw[g];exact dR t rfl
  ·have J:A.not b=false:=yA;have h3:A.lt 65536 (A.dz (A.bL (A.cell e (br j) 1)))=false:=yA;rw[Y]at J;rw[k]at h3;rw[if_neg (yU J),if_neg (of_decide_eq_false h3)]at g;exact⟨j+1,⟨yO,g⟩,yO,[],[],[0,1],rfl,yc⟩
 ·have h5:j=c:=gY X.a a h1;cbv;refine h [] 0 ?_;rw[g,h5,d,bZ];rfl
end
end Go.VC.cK
namespace Go.VC
noncomputable def lN(env:List IF)(i:IF):S×Int:=fE ([],rF i) (fE (oH i) (fE (rR i) (fE (ka env i) (fE (nC i) ([],0)))))
noncomputable def iA(env:List IF)(p:S):S×Int:=match gu env p with
 |none=>([],6)
 |some i=>lN env i
end Go.VC
namespace Go.VC.cK
open Go Go.VC Go.Proofs
def XY{env:List IF}{t:D}(Q:t=bH dC env)(F:dW env)(z:∀i∈env,i.fit){p:S}{K:PV->List Ob->Prop}(h:∀(s:S)(r:Int),(s,r)=iA env p->K (.tup [.str s,.int .i64 r]) []):
 FT 51 [] [.lst 51 t,.str p] K:=by
 refine en (cf 50) Tryz.func51 λA C L X=>?_;have Y:=fz X.a;have Z:=mI X.a;have da:=Dh X.a;have g:∀k:Nat,k<5->A.inr .i64 (A.add (br k) 1):=by rw[X.a];exactλk hk=>ek hk yD
 unfold iA at h;cbv;refine X.call (Zx Q F rfl λM c1 c2 B I b hc hb=>?_);cbv;repeat' (first|apply bw|exact zf|(intro J;cbv)|apply bG)
 ·have J:A.not b=true:=J;rw[Y,hb]at J;refine h _ _ ?_;rw[show gu env p=none by simpa using J]
 have J:A.not b=false:=J;rw[Y,hb]at J;obtain⟨i,N⟩:∃i,gu env p=some i:=dy.1 (yU J);have E:i.fit:=z i (di N);rw[N]at hc h;simp only[dQ]at hc;clear J hb;have h:∀(s:S)(r:Int),(s,r)=lN env i->K (.tup [.str s,.int .i64 r]) []:=h;obtain⟨n,v⟩:∃x,x=oH i:=⟨_,rfl⟩;obtain⟨E2,G⟩:∃x,x=rR i:=⟨_,rfl⟩;obtain⟨j,y⟩:∃x,x=ka env i:=⟨_,rfl⟩;obtain⟨l,w⟩:∃x,x=nC i:=⟨_,rfl⟩;obtain⟨E0,u⟩:∃x,x=(([],rF i):S×Int):=⟨_,rfl⟩;unfold lN at h;rw[<- u,<-v,<-G,<-y,<-w]at h;cbv;refine X.loop (λ(k:Nat)=>⟨[(36,.int .i64 k),(35,.int .i64 5),(34,.cR [.cy 1000082 [.agg [.lst 51 t,.str M,.lst 45 c1,.lst 99 c2,.lst 141 B,.lst 152 I]],.cy 1000083 [.agg [.lst 51 t,.str M,.lst 45 c1,.lst 99 c2,.lst 141 B,.lst 152 I]],.cy 1000084 [.agg [.lst 51 t,.str M,.lst 45 c1,.lst 99 c2,.lst 141 B,.lst 152 I]],.cy 1000085 [.agg [.lst 51 t,.str M,.lst 45 c1,.lst 99 c2,.lst 141 B,.lst 152 I]],.cy 1000086 [.agg [.lst 51 t,.str M,.lst 45 c1,.lst 99 c2,.lst 141 B,.lst 152 I]]] 1000003)],[]⟩) (λk=>k<=5/\(0<k->E0.2=0)/\(1<k->n.2=0)/\(2<k->E2.2=0)/\(3<k->j.2=0)/\(4<k->l.2=0)) (λk=>5-k) 0 ⟨bD _,yS,yS,yS,yS,yS⟩ ?_ ?_
 ·(cbv;repeat' apply bw);all_goals try first|trivial|rfl|(rw[X.a];rfl)
 rintro k ⟨hk,w0,o,H,O,R⟩;have P:k=0\/k=1\/k=2\/k=3\/k=4\/k=5:=yO;rcases P with rfl|rfl|rfl|rfl|rfl|rfl
 ·have a:A.lt (br 0) 5=true:=by rw[da];rfl
  have c:A.lt (br 0) 5≠false:=by rw[a];decide
  have d:∀(s:S)(r:Int),(s,r)=E0->r≠0->(s,r)=fE E0 (fE n (fE E2 (fE j (fE l ([],0))))):=by intro s r e hr;rw[fE,if_pos (by rw[<- e];exact hr),e]
  have f:A.inr .i64 (A.add (br 0) 1):=g 0 yD;cbv;refine⟨λh1=>?_,λh1=>absurd h1 c⟩;cbv;refine X.call (Zw E hc λr0 hr=>?_);have hr:(([]:S),r0)=E0:=by rw[u,hr]
  cbv;repeat' (first|apply bw|exact zf|(intro J;cbv)|apply bG)
  any_goals exact f
  ·have J:A.not (A.eq r0 0)=true:=yA;rw[Y,Z]at J;exact h _ _ (d _ _ hr (yU J))
  ·have J:A.not (A.eq r0 0)=false:=by assumption
   rw[Y,Z]at J;have m:E0.2=0:=by rw[<- hr];simpa using J
   refine⟨1,⟨yD,λ_=>m,λh=>absurd h yD,λh=>absurd h yD,λh=>absurd h yD,λh=>absurd h yD⟩,yD,?_⟩
   (cbv;repeat' apply bw);all_goals try first|trivial|rfl|(rw[X.a];rfl)
 ·have a:A.lt (br 1) 5=true:=by rw[da];rfl
  have c:A.lt (br 1) 5≠false:=by rw[a];decide
  have d:∀(s:S)(r:Int),(s,r)=n->r≠0->(s,r)=fE E0 (fE n (fE E2 (fE j (fE l ([],0))))):=by intro s r e hr;rw[fE,if_neg (by rw[w0 yD];decide)];rw[fE,if_pos (by rw[<- e];exact hr),e]
  have f:A.inr .i64 (A.add (br 1) 1):=g 1 yD;cbv;refine⟨λh1=>?_,λh1=>absurd h1 c⟩;cbv;refine X.call (Zv E hc λq r0 hr=>?_);have hr:(q,r0)=n:=by rw[v,hr]
  cbv;repeat' (first|apply bw|exact zf|(intro J;cbv)|apply bG)
  any_goals exact f
  ·have J:A.not (A.eq r0 0)=true:=yA;rw[Y,Z]at J;exact h _ _ (d _ _ hr (yU J))
  ·have J:A.not (A.eq r0 0)=false:=by assumption
   rw[Y,Z]at J;have m:n.2=0:=by rw[<- hr];simpa using J
   refine⟨2,⟨yD,λ_=>w0 yD,λ_=>m,λh=>absurd h yD,λh=>absurd h yD,λh=>absurd h yD⟩,yD,?_⟩
   (cbv;repeat' apply bw);all_goals try first|trivial|rfl|(rw[X.a];rfl)
 ·have a:A.lt (br 2) 5=true:=by rw[da];rfl
  have c:A.lt (br 2) 5≠false:=by rw[a];decide
  have d:∀(s:S)(r:Int),(s,r)=E2->r≠0->(s,r)=fE E0 (fE n (fE E2 (fE j (fE l ([],0))))):=by intro s r e hr;rw[fE,if_neg (by rw[w0 yD];decide)];rw[fE,if_neg (by rw[o yD];decide)];rw[fE,if_pos (by rw[<- e];exact hr),e]
  have f:A.inr .i64 (A.add (br 2) 1):=g 2 yD;cbv;refine⟨λh1=>?_,λh1=>absurd h1 c⟩;cbv;refine X.call (Zu E hc λq r0 hr=>?_);have hr:(q,r0)=E2:=by rw[G,hr]
  cbv;repeat' (first|apply bw|exact zf|(intro J;cbv)|apply bG)
  any_goals exact f
  ·have J:A.not (A.eq r0 0)=true:=yA;rw[Y,Z]at J;exact h _ _ (d _ _ hr (yU J))
  ·have J:A.not (A.eq r0 0)=false:=yA;rw[Y,Z]at J;have m:E2.2=0:=by rw[<- hr];simpa using J
   refine⟨3,⟨yD,λ_=>w0 yD,λ_=>o yD,λ_=>m,λh=>absurd h yD,λh=>absurd h yD⟩,yD,?_⟩
   (cbv;repeat' apply bw);all_goals try first|trivial|rfl|(rw[X.a];rfl)
 ·have a:A.lt (br 3) 5=true:=by rw[da];rfl
  have c:A.lt (br 3) 5≠false:=by rw[a];decide
  have d:∀(s:S)(r:Int),(s,r)=j->r≠0->(s,r)=fE E0 (fE n (fE E2 (fE j (fE l ([],0))))):=by intro s r e hr;rw[fE,if_neg (by rw[w0 yD];decide)];rw[fE,if_neg (by rw[o yD];decide)];rw[fE,if_neg (by rw[H yD];decide)];rw[fE,if_pos (by rw[<- e];exact hr),e]
  have f:A.inr .i64 (A.add (br 3) 1):=g 3 yD;cbv;refine⟨λh1=>?_,λh1=>absurd h1 c⟩;cbv;refine X.call (Zt Q F E hc λq r0 hr=>?_);have hr:(q,r0)=j:=by rw[y,hr]
  cbv;repeat' (first|apply bw|exact zf|(intro J;cbv)|apply bG)
  any_goals exact f
  ·have J:A.not (A.eq r0 0)=true:=yA;rw[Y,Z]at J;exact h _ _ (d _ _ hr (yU J))
  ·have J:A.not (A.eq r0 0)=false:=yA;rw[Y,Z]at J;have m:j.2=0:=by rw[<- hr];simpa using J
   refine⟨4,⟨yD,λ_=>w0 yD,λ_=>o yD,λ_=>H yD,λ_=>m,λh=>absurd h yD⟩,yD,?_⟩
   (cbv;repeat' apply bw);all_goals try first|trivial|rfl|(rw[X.a];rfl)
 ·have a:A.lt (br 4) 5=true:=by rw[da];rfl
  have c:A.lt (br 4) 5≠false:=by rw[a];decide
  have d:∀(s:S)(r:Int),(s,r)=l->r≠0->(s,r)=fE E0 (fE n (fE E2 (fE j (fE l ([],0))))):=by intro s r e hr;rw[fE,if_neg (by rw[w0 yD];decide)];rw[fE,if_neg (by rw[o yD];decide)];rw[fE,if_neg (by rw[H yD];decide)];rw[fE,if_neg (by rw[O yD];decide)];rw[fE,if_pos (by rw[<- e];exact hr),e]
  have f:A.inr .i64 (A.add (br 4) 1):=g 4 yD;cbv;refine⟨λh1=>?_,λh1=>absurd h1 c⟩;cbv;refine X.call (Zs E hc λq r0 hr=>?_);have hr:(q,r0)=l:=by rw[w,hr]
  cbv;repeat' (first|apply bw|exact zf|(intro J;cbv)|apply bG)
  any_goals exact f
  ·have J:A.not (A.eq r0 0)=true:=yA;rw[Y,Z]at J;exact h _ _ (d _ _ hr (yU J))
  ·have J:A.not (A.eq r0 0)=false:=yA;rw[Y,Z]at J;have m:l.2=0:=by rw[<- hr];simpa using J
   refine⟨5,⟨yD,λ_=>w0 yD,λ_=>o yD,λ_=>H yD,λ_=>O yD,λ_=>m⟩,yD,?_⟩
   (cbv;repeat' apply bw);all_goals try first|trivial|rfl|(rw[X.a];rfl)
 ·have a:A.lt (br 5) 5=false:=by rw[da];rfl
  have c:A.lt (br 5) 5≠true:=by rw[a];decide
  cbv;refine⟨λh1=>absurd h1 c,λh1=>?_⟩;cbv;refine h [] 0 ?_;rw[fE,if_neg (by rw[w0 yD];decide),fE,if_neg (by rw[o yD];decide),fE,if_neg (by rw[H yD];decide),fE,if_neg (by rw[O yD];decide),fE,if_neg (by rw[R yD];decide)]
end Go.VC.cK
namespace Go.VC
inductive LR (g:S->List S):S->S->Prop
 |one {a b:S}:b∈g a->LR g a b
 |more {a b c:S}:LR g a b->c∈g b->LR g a c
structure GB (g:S->List S) (T:Nat):Prop where
 sum:∀L:List S,L.Nodup->(L.map λs=>(g s).length).sum<=T
 all:∃M3:List S,M3.length<=T/\∀s e,e∈g s->e∈M3
def GB.one{g:S->List S}{T:Nat}(h:GB g T)(n:S):(g n).length<=T:=by have:=h.sum [n] yS;simpa using this
structure G7 (g:S->List S) (n:S) (L W:List S):Prop where
 nd:L.Nodup
 np:n∉L
 xh:∀s∈L,LR g n s
 Pt:∀s∈W,LR g n s
 st:∀e∈g n,e∈L\/e∈W
 cl:∀s∈L,∀e∈g s,e∈L\/e∈W
 len:W.length<=(g n).length+(L.map λs=>(g s).length).sum
def G7.start{g:S->List S}{n:S}:G7 g n [] (g n):=⟨yS,yS,yS,λs hs=>.one hs,λe a=>.inr a,yS,yS⟩
def G7.old{g:S->List S}{n s:S}{L W:List S}(h:G7 g n L (s::W))(hs:s∈L):G7 g n L W:=by
 refine⟨h.nd,h.np,h.xh,λx b=>h.Pt x (by simp[b]),λe a=>?_,λx b e a=>?_,by have:=h.len;simp at this;omega⟩
 ·rcases h.st e a with h1|h1
  ·exact .inl h1
  ·rcases bP.1 h1 with rfl|h1
   ·exact .inl hs
   ·exact .inr h1
 ·rcases h.cl x b e a with h1|h1
  ·exact .inl h1
  ·rcases bP.1 h1 with rfl|h1
   ·exact .inl hs
   ·exact .inr h1
def G7.new{g:S->List S}{n s:S}{L W:List S}(h:G7 g n L (s::W))(hs:s∉L)(f:s≠n):G7 g n (L++[s]) (W++g s):=by
 have hr:=h.Pt s yS;refine⟨?_,?_,?_,?_,?_,?_,?_⟩
 ·rw[eb];exact⟨h.nd,yS,λa ha b hb=>by simp at hb;subst hb;exactλe=>hs (e▸ha)⟩
 ·intro c;rcases bJ.1 c with c|c
  ·exact h.np c
  ·simp at c;exact f c.symm
 ·intro x c;rcases bJ.1 c with c|c
  ·exact h.xh x c
  ·simp at c;subst c;exact hr
 ·intro x c;rcases bJ.1 c with c|c
  ·exact h.Pt x (by simp[c])
  ·exact .more hr c
 ·intro e d;rcases h.st e d with h1|h1
  ·exact .inl (by simp[h1])
  ·rcases bP.1 h1 with rfl|h1
   ·exact .inl yS
   ·exact .inr (by simp[h1])
 ·intro x c e d;rcases bJ.1 c with c|c
  ·rcases h.cl x c e d with h1|h1
   ·exact .inl (by simp[h1])
   ·rcases bP.1 h1 with rfl|h1
    ·exact .inl yS
    ·exact .inr (by simp[h1])
  ·simp at c;subst c;exact .inr (dV _ d)
 ·have a:=h.len;simp only[bS,bE,cg,ea,bO,iL,ch,ov]at*;omega
def G7.fin{g:S->List S}{n:S}{L:List S}(h:G7 g n L []):¬LR g n n:=by
 have key:∀s,LR g n s->s∈L:=by
  intro s hr;induction hr with
  |one hd=>rcases h.st _ hd with h1|h1;exact h1;simp at h1
  |more _ hd a=>rcases h.cl _ a _ hd with h1|h1;exact h1;simp at h1
 exactλhr=>h.np (key n hr)
def G7.cv{g:S->List S}{n:S}{L W:List S}(h:G7 g n L W){T:Nat}(hb:GB g T):L.length<=T:=by
 obtain⟨M3,h1,J⟩:=hb.all;refine bR (fm h.nd λs hs=>?_) h1;have hr:=h.xh s hs;cases hr with
 |one h=>exact J _ _ h
 |more _ h=>exact J _ _ h
def G7.Lh{g:S->List S}{n:S}{L W:List S}(h:G7 g n L W){T:Nat}(hb:GB g T):W.length<=2*T:=by have a:=h.len;have b:=hb.sum L h.nd;have c:=hb.one n;omega
structure MM (mm:List (S×D)) (g:S->List S):Prop where
 get:∀s q,ia mm s=some q->q=bH encS (g s)
 no:∀s,ia mm s=none->g s=[]
end Go.VC
namespace Go.VC.cK
open Go Go.VC Go.Proofs
section
variable {K:PV->List Ob->Prop}
def UY:eE:={tt:=tt,n:=8,own:=[2,5]}
def XS{l:List S}{d:D}(hd:d=bH encS l)(hl:l.length<4294967296)
 (h:∀r,r=bH encS l->K (.row 9 0) [.row 9 r true]):
 FT 92 [] [.lst 9 d] K:=by
 refine eo UY Tryz.func92 λA C L X=>?_;obtain⟨e,c,a⟩:=lenOf hd;cbv;intro b hb;refine p3 (λJ=>?_) (λJ=>?_) (λJ=>?_)
 ·refine h _ ?_;obtain rfl:=X.a;have hb:=hb J;rw[zZ,a,c]at hb;have:l=[]:=cz (by simp only[bz]at hb;omega);rw[this];rfl
 ·obtain rfl:=X.a;simp only[SD,a];omega
 ·refine h _ ?_;obtain rfl:=X.a;rw[hd];exact cx (l:=[])
def U8:eE:={tt:=tt,n:=37,own:=[17]}
def ZK{mm:List (S×D)}{g:S->List S}(hm:MM mm g){T:Nat}(hb:GB g T)(hT:T<=268435456){dM:D}(F:dM=bH (fQ sS) mm){n:S}
 (h:∀b,(b=true↔LR g n n)->K (.bool b) []):
 FT 53 [] [.dmp 59 dM,.str n] K:=by
 refine eo U8 Tryz.func53 λA C L X=>?_;have Y:=fz X.a;have ak:=Dg X.a;have ai:∀p,A.pb dM (.str p)=true->A.fI dM (.str p) 0=bH encS (g p):=by intro p hp;rw[X.a,F,pD]at hp;obtain⟨q,hq⟩:=dy.1 hp;rw[X.a,F,vG (f:=sS) hq 0,hm.get p q hq];rfl
 have ag:∀p,A.pb dM (.str p)=false->(.list []:D)=bH encS (g p):=by intro p hp;rw[X.a,F,pD]at hp;rw[hm.no p (yU hp)];rfl
 have key:∀dw,dw=bH encS (g n)->∀{st:List Ob},True:=λ_ _ _=>trivial;clear F hm;cbv;repeat' (first|apply bw|exact zf|(intro J;cbv)|apply bG|(refine X.call (XS (ai n J) (lD (hb.one n) yO) λr0 ae=>?_);cbv)|(refine X.call (XS (ag n J) (lD (hb.one n) yO) λr0 ae=>?_);cbv))
 all_goals (
  cbv
  refine X.iC (λ(y:(List S×List S)×D×D×Bool)=>⟨[(6,.row 9 1),(5,.mp 0),(1,.str n),(0,.dmp 59 dM)],[.map .str 4 y.2.1,.row 9 y.2.2.1 y.2.2.2]⟩)
   (λy=>G7 g n y.1.1 y.1.2/\y.2.2.1=bH encS y.1.2/\∃k,y.2.1=bH dY k/\KT k y.1.1) (λy=>y.1.2.length+(T-y.1.1.length)*(T+1)) (([],g n),.list [],r0,true) ⟨.start,ae,[],rfl,KT.nil⟩ ?_ ?_)
 ·exact⟨[0,1],rfl,yc⟩
 rotate_left
 ·exact⟨[0,1],rfl,yc⟩
 all_goals (
  rintro⟨⟨v,W⟩,dm,c,wr⟩ ⟨x,z,k,B,hk⟩;simp only at x z B hk;have E:=x.Lh hb;have av:=x.cv hb;obtain⟨aq,d,m⟩:=lenOf z;cbv;constructor<;>intro h1
  ·have w:A.lt 0 (A.len c)=true:=h1
   match W,z,d,x,E with
   |[],z,d,x,E=>exfalso;obtain rfl:=X.a;rw[m,d]at w;cases w
   |s::W,z,d,x,E=>
   have ao:A.idx 0 (A.len c):=by rw[X.a,z];exact cP (i:=0) yS
   have ks:A.bL (A.cell c 0 0)=s:=jR X.a z (i:=0) yS;have M:A.asBool (A.fI dm (.str (A.bL (A.cell c 0 0))) 0)=decide (s∈v):=by rw[ks,X.a,B];exact vH hk _
   have I:A.p6 dm (.str (A.bL (A.cell c 0 0))) [.bool true]=bH dY (pC k s):=by rw[ks,X.a,B];exact rZ
   have V:A.fU 1 (A.len c):=by rw[X.a,z,cT];exact⟨yD,yQ⟩
   have O:A.part c 1 (A.len c)=bH encS W:=by rw[X.a,z,cT];have:=mi (f:=encS) (l:=s::W) (a:=1) (b:=(s::W).length);simpa using this
   have Q:A.pb dM (.str (A.bL (A.cell c 0 0)))=true->A.fI dM (.str (A.bL (A.cell c 0 0))) 0=bH encS (g s):=by rw[ks];exact ai s
   have P:A.pb dM (.str (A.bL (A.cell c 0 0)))=false->(.list []:D)=bH encS (g s):=by rw[ks];exact ag s
   simp only[bS]at E;clear h1 w;have ah:s∉v->s≠n->∀j,j=bH encS (g s)->A.fU (A.add (A.len c) (A.len j)) 4294967296:=by intro hs hn j o;have R:=(x.new hs hn).Lh hb;simp only[bE]at R;rw[X.a,z,o,cT,cT,dO];refine⟨yQ,yQ⟩
   have G:∀j,j=bH encS (g s)->A.app c j=bH encS (s::(W++g s)):=by intro j o;rw[X.a,z,o];exact cx
   have H:∀j,j=bH encS (g s)->A.fU 1 (A.len (A.app c j)):=by intro j o;rw[G j o,X.a,cT];exact⟨yD,yQ⟩
   have t:∀j,j=bH encS (g s)->A.part (A.app c j) 1 (A.len (A.app c j))=bH encS (W++g s):=by intro j o;rw[G j o,X.a,cT];have:=mi (f:=encS) (l:=s::(W++g s)) (a:=1) (b:=(s::(W++g s)).length);rw[List.drop_one,List.tail_cons,cG yS]at this;exact this
   have N:s∉v->s≠n->(W++g s).length+(T-(v++[s]).length)*(T+1)<(s::W).length+(T-v.length)*(T+1):=by intro hs hn;have ac:=(x.new hs hn).cv hb;have ar:=hb.one s;simp only[bE,eg]at ac;have:T-v.length=(T-(v.length+1))+1:=yO;have e2:(v++[s]).length=v.length+1:=yS;rw[e2,this,ez,qE,bE,bS];omega
   have U:=hk.add s;have ab:A.seq (A.bL (A.cell c 0 0)) n=(s==n):=by rw[ks,ak]
   have r:A.not (A.asBool (A.fI dm (.str (A.bL (A.cell c 0 0))) 0))=true->s∉v:=by intro e;rw[Y,M]at e;simpa using e
   have u:A.seq (A.bL (A.cell c 0 0)) n=false->s≠n:=by intro e;rw[ab]at e;simpa using e
   cbv;repeat' (first|apply bw|exact zf|(intro J;cbv)|apply bG)
   any_goals first|exact ao|exact V
   any_goals first|exact ah (r yA) (u yA) _ (Q yA)|exact ah (r yA) (u yA) _ (P yA)|exact H _ (Q yA)|exact H _ (P yA)
   ·have e:A.seq (A.bL (A.cell c 0 0)) n=true:=yA;rw[ab]at e;have e:=eq_of_beq e;exact h true (Iff.intro (λ_=>e▸x.Pt s yS) (λ_=>rfl))
   ·have e1:=r yA;have e2:=u yA;exact⟨((v++[s],W++g s),_,_,false),⟨x.new e1 e2,t _ (Q yA),_,I,U⟩,N e1 e2,[0,1],rfl,yc⟩
   ·have e1:=r yA;have e2:=u yA;exact⟨((v++[s],W++g s),_,_,false),⟨x.new e1 e2,t _ (P yA),_,I,U⟩,N e1 e2,[0,1],rfl,yc⟩
   ·have e1:A.not (A.asBool (A.fI dm (.str (A.bL (A.cell c 0 0))) 0))=false:=yA;rw[Y,M]at e1;have hs:s∈v:=yU e1;exact⟨((v,W),_,_,false),⟨x.old hs,O,k,B,hk⟩,by simp only[bS];omega,[0,1],rfl,yc⟩
  ·have w:A.lt 0 (A.len c)=false:=h1;have al:W=[]:=by obtain rfl:=X.a;rw[m,ik]at w;have:=of_decide_eq_false w;exact cz (by simp only[bz]at this;omega)
   subst al;have af:=x.fin;cbv;exact h false (Iff.intro (λe=>absurd e yD) (λe=>absurd e af))
 )
end
end Go.VC.cK
namespace Go.VC
open Classical in
noncomputable def pd(x:IF):List S:=if h:∃l:List S,mj l/\∀s,s∈l↔s∈rB x then h.choose else []
def Kt{l c:List S}(h:mj l)(f:mj c)(i:∀s,s∈l↔s∈c):l=c:=by have nd:∀{l:List S},mj l->l.Nodup:=λh=>ic (λ{a b} h e=>by subst e;rw[fi]at h;cases h) h;have g:l.Perm c:=(oQ (nd h) (nd f)).2 i;have d:∀a b:S,slt a b=true->slt b a=true->a=b:=λa b h1 J=>absurd (mZ h1 J) (by rw[fi];decide);exact AG (le:=λa b=>slt a b=true) (λa b _ _ h1 J=>d a b h1 J) h f g
def xH{x:IF}{l:List S}(h1:mj l)(J:∀s,s∈l↔s∈rB x):l=pd x:=by have a:∃l:List S,mj l/\∀s,s∈l↔s∈rB x:=⟨l,h1,J⟩;unfold pd;rw[dif_pos a];exact Kt h1 a.choose_spec.1 λs=>(J s).trans (a.choose_spec.2 s).symm
def za{x:IF}{s:S}(h:s∈pd x):s∈rB x:=by
 unfold pd at h;split at h
 ·rename_i a;exact(a.choose_spec.2 s).1 h
 ·simp at h
def K4(x:IF):(pd x).length<=x.wt:=by
 refine bR ?_ (wo x);have nd:∀{l:List S},mj l->l.Nodup:=λh=>ic (λ{a b} h e=>by subst e;rw[fi]at h;cases h) h;by_cases c:∃l:List S,mj l/\∀s,s∈l↔s∈rB x
 ·have e:pd x=c.choose:=by unfold pd;rw[dif_pos c]
  refine fm (by rw[e];exact nd c.choose_spec.1) λs hs=>?_;exact(jz.1 (za hs)).1
 ·unfold pd;rw[dif_neg c];exact bD _
noncomputable def zw(env:List IF)(s:S):List S:=match env.reverse.find? λx=>x.path==s with|some x=>pd x|none=>[]
def zv(env:List IF)(x:IF)(s:S):zw (env++[x]) s=if x.path=s then pd x else zw env s:=by
 unfold zw;rw[List.reverse_append,List.reverse_singleton,JQ,cB];by_cases h:x.path=s
 ·have:(x.path==s)=true:=yU h;rw[this,if_pos h]
 ·have:(x.path==s)=false:=yU h;rw[this,if_neg h]
def AT{α:Type}(key:α->S):∀(l:List α)(f:α->Nat)(L:List S),L.Nodup->(L.map λn=>((l.find? λx=>key x==n).map f).getD 0).sum<=(l.map f).sum
 |[],f,L,_=>by
  have:∀L:List S,(L.map λn=>((([]:List α).find? λx=>key x==n).map f).getD 0).sum=0:=by
   intro L;induction L with
   |nil=>rfl
   |cons s L d=>rw[bO,ch,d];rfl
  rw[this];exact bD _
 |x::l,f,L,c=>by
  have d:=AT key l f L c
  have key:(L.map λn=>(((x::l).find? λy=>key y==n).map f).getD 0).sum<=f x+(L.map λn=>((l.find? λy=>key y==n).map f).getD 0).sum:=by
   clear d;induction L with
   |nil=>simp
   |cons s L b=>
    rw[cn]at c;have b:=b c.2;simp only[bO,ch];by_cases hs:key x=s
    ·have hb:(key x==s)=true:=yU hs
     have a:∀n∈L,(((x::l).find? λy=>key y==n).map f).getD 0=((l.find? λy=>key y==n).map f).getD 0:=by
      intro n g;have:(key x==n)=false:=by rw[beq_eq_false_iff_ne];intro e;exact c.1 (by rw[<- hs,e];exact g)
      rw[cB,this]
     rw[hJ a,cB,hb];simp only[cu,dQ];omega
    ·have hb:(key x==s)=false:=yU hs;rw[cB,hb];simp only;omega
  simp only[bO,ch];omega
def LM(env:List IF):GB (zw env) (env.map IF.wt).sum:=by
 have a:(env.reverse.map IF.wt).sum=(env.map IF.wt).sum:=by rw[List.map_reverse,List.sum_reverse]
 refine⟨λL f=>?_,env.flatMap uR,ll λx _=>wo x,λs e b=>?_⟩
 ·rw[<- a];refine bR ?_ (AT IF.path env.reverse IF.wt L f)
  have key:∀L:List S,(L.map λs=>(zw env s).length).sum<=(L.map λn=>((env.reverse.find? λx=>x.path==n).map IF.wt).getD 0).sum:=by
   intro L;induction L with
   |nil=>exact ca _
   |cons s L c=>
    simp only[bO,ch];refine Nat.add_le_add ?_ c;unfold zw;cases h:env.reverse.find? λx=>x.path==s with
    |none=>simp
    |some x=>simpa using K4 x
  exact key L
 ·unfold zw at b;cases h:env.reverse.find? λx=>x.path==s with
  |none=>rw[h]at b;simp at b
  |some x=>rw[h]at b;have d:=List.mem_reverse.1 (di h);exact cN.2 ⟨x,d,(jz.1 (za b)).1⟩
def MM.put{mm:List (S×D)}{env:List IF}(h:MM mm (zw env))(x:IF):MM (kA x.path (bH encS (pd x)) mm) (zw (env++[x])):=by
 refine⟨λs q a=>?_,λs a=>?_⟩
 ·rw[zv];rw[pg]at a;by_cases e:x.path=s
  ·rw[if_pos e.symm]at a;rw[if_pos e];exact(fF a).symm
  ·rw[if_neg (eh e)]at a;rw[if_neg e];exact h.get s q a
 ·rw[zv];rw[pg]at a;by_cases e:x.path=s
  ·rw[if_pos e.symm]at a;cases a
  ·rw[if_neg (eh e)]at a;rw[if_neg e];exact h.no s a
def MM.nil:MM [] (zw []):=⟨λs q a=>absurd a (by simp[ia]),λs _=>rfl⟩
noncomputable def mB(env:List IF):Option S->List IF->S×Int
 |_,[]=>([],0)
 |none,x::l=>if(iA env x.path).2≠0 then(x.path,(iA env x.path).2)else mB env (some x.path) l
 |some p,x::l=>if x.path=p then(x.path,5)else if slt x.path p=true then(x.path,1)else if(iA env x.path).2≠0 then(x.path,(iA env x.path).2)else mB env (some x.path) l
open Classical in
noncomputable def Gs(env:List IF)(x:IF):Int:=if LR (zw env) x.path x.path then 14 else 0
noncomputable def nL(env:List IF):S×Int:=if 64<env.length then([],7)else fE (mB env none env) (gQ (Gs env) IF.path env)
end Go.VC
namespace Go.VC.cK
open Go Go.VC Go.Proofs
def ZZ{env:List IF}{d:D}(E:d=bH dC env)(B:dW env)(F:∀i∈env,i.fit)(ab:(env.map IF.wt).sum<=268435456){K:PV->List Ob->Prop}(h:∀(s:S)(r:Int),(s,r)=nL env->K (.tup [.str s,.int .i64 r]) []):
 FT 29 [] [.lst 51 d] K:=by
 refine en YY Tryz.func29 λA C L X=>?_;have Y:=fz X.a;have Z:=mI X.a;have da:=Dh X.a;have w:=Dg X.a;have I:=Uo X.a;have l1:A.len d=br env.length:=gr X.a E;obtain⟨g,n,a⟩:=lenOf E;unfold nL at h;cbv;repeat' (first|apply bw|exact zf|(intro J;cbv)|apply bG)
 ·have J:A.lt 64 (A.len d)=true:=J;rw[da,l1]at J;have h3:=of_decide_eq_true J;simp only[bz]at h3;exact h _ _ (by rw[if_pos yO])
 have aa:¬64<env.length:=by have J:A.lt 64 (A.len d)=false:=J;rw[da,l1]at J;have h3:=of_decide_eq_false J;simp only[bz]at h3;omega
 rw[if_neg aa]at h;clear J;obtain⟨E0,T⟩:∃x,x=mB env none env:=⟨_,rfl⟩;obtain⟨E1,W⟩:∃x,x=gQ (Gs env) IF.path env:=⟨_,rfl⟩;rw[<- T,<-W]at h;cbv
 refine X.iC (λ(y:Nat×D)=>⟨[(17,.int .i64 y.1),(16,.int .i64 (A.len d)),(15,.lst 51 d),(4,.mp 0),(0,.lst 51 d)],[.map .str 59 y.2]⟩)
  (λy=>y.1<=g/\E0=mB env (fM (env.map IF.path) y.1) (env.drop y.1)/\∃mm,y.2=bH (fQ sS) mm/\MM mm (zw (env.take y.1))) (λy=>g-y.1) (0,.list []) ⟨bD _,T,[],rfl,MM.nil⟩ ?_ ?_
 ·exact⟨[0],rfl,yc⟩
 rintro⟨j,dM⟩ ⟨hj,m,mm,P,v⟩;simp only at hj m P v;cbv;constructor<;>intro h1
 ·have h5:j<env.length:=lY X.a a h1;have R:=mA X.a E h5;have k:=R.1;have O:=iX X.a E h5;have z:=jX X.a h5;have ag:A.lt 0 (br j)=true->A.inr .i64 (A.sub (br j) 1):=by intro h;rw[da]at h;have h:=of_decide_eq_true h;rw[X.a];simp only[SD]at *;omega
  have af:A.lt 0 (br j)=true->A.idx (A.sub (br j) 1) (A.len d):=by intro h;rw[da]at h;have h:=of_decide_eq_true h;rw[X.a]at *;simp only[a,SD]at *;omega
  have ah:A.lt 0 (br j)=true->∃p,fM (env.map IF.path) j=some p/\A.bL (A.cell d (A.sub (br j) 1) 0)=p:=by
   intro h;rw[da]at h;have h:=of_decide_eq_true h;simp only[bz]at h;have ad:j-1<env.length:=yO;refine⟨env[j-1].path,?_,?_⟩
   ·rw[fM,if_neg yO];simp[cj,ad]
   ·rw[show A.sub (br j) 1=br (j-1)by rw[X.a];simp only[SD];omega];exact(mA X.a E ad).1
  have aj:A.lt 0 (br j)=false->fM (env.map IF.path) j=none:=by intro h;rw[da]at h;have h:=of_decide_eq_false h;simp only[bz]at h;rw[fM,if_pos yO]
  have ac:fM (env.map IF.path) (j+1)=some env[j].path:=by rw[fM,if_neg yO];simp[cj,h5]
  have V:env[j].wt<=4294967295:=bR (tk (bx h5)) (bR ab yD);have G:∀l r,r=bH encS l->l=pd env[j]->A.p6 dM (.str (A.bL (A.cell d (br j) 0))) [r]=bH (fQ sS) (kA env[j].path (bH encS (pd env[j])) mm):=by intro l r hr hl;rw[k,X.a,P,hr,hl];exact rX (f:=sS)
  have U:env.take (j+1)=env.take j++[env[j]]:=bX h5;rw[bM h5]at m;cases Q:A.lt 0 (br j)with
  |true=>
   obtain⟨p,ai,o⟩:=ah Q;rw[ai,mB]at m;cbv;repeat' (first|apply bw|exact zf|(intro J;first|exact yB Q J|cbv)|apply bG|(refine X.call (XY E B F λs1 t c=>?_);cbv))
   any_goals first|exact O|exact z|exact ag Q|exact af Q
   ·have h3:A.seq (A.bL (A.cell d (br j) 0)) (A.bL (A.cell d (A.sub (br j) 1) 0))=true:=yA;rw[k,o,w]at h3;rw[if_pos (yU h3)]at m;refine h _ 5 ?_;rw[m,fE,if_pos (show (5:Int)≠0 by decide)];exact dR k rfl
   ·have h3:A.seq (A.bL (A.cell d (br j) 0)) (A.bL (A.cell d (A.sub (br j) 1) 0))=false:=yA;have h4:A.slt (A.bL (A.cell d (br j) 0)) (A.bL (A.cell d (A.sub (br j) 1) 0))=true:=yA;rw[k,o,w]at h3;rw[k,o,I]at h4;rw[if_neg (yU h3),if_pos h4]at m;refine h _ 1 ?_;rw[m,fE,if_pos (show (1:Int)≠0 by decide)];exact dR k rfl
   ·have h3:A.seq (A.bL (A.cell d (br j) 0)) (A.bL (A.cell d (A.sub (br j) 1) 0))=false:=yA;have h4:A.slt (A.bL (A.cell d (br j) 0)) (A.bL (A.cell d (A.sub (br j) 1) 0))=false:=yA;have c:(s1,t)=iA env env[j].path:=by rw[<- k];exact c
    rw[k,o,w]at h3;rw[k,o,I]at h4;rw[Y,Z]at J;rw[if_neg (yU h3),if_neg (by rw[h4];decide),<-c,if_pos (yU J)]at m;refine h _ t ?_;rw[m,fE,if_pos (show t≠0 by simpa using J)];exact dR k rfl
   ·have h3:A.seq (A.bL (A.cell d (br j) 0)) (A.bL (A.cell d (A.sub (br j) 1) 0))=false:=yA;have h4:A.slt (A.bL (A.cell d (br j) 0)) (A.bL (A.cell d (A.sub (br j) 1) 0))=false:=yA;have c:(s1,t)=iA env env[j].path:=by rw[<- k];exact c
    rw[k,o,w]at h3;rw[k,o,I]at h4;rw[Y,Z]at J;have h6:t=0:=yU J;rw[if_neg (yU h3),if_neg (by rw[h4];decide),<-c,if_neg (show ¬t≠0 fromλe=>e h6)]at m;refine X.call (XX R (B.2 _ (bx h5)) V λl r hr N H=>?_);have hp:=G l r hr (xH N H);have M:MM (kA env[j].path (bH encS (pd env[j])) mm) (zw (env.take (j+1))):=by rw[U];exact v.put _
    refine p1 ?_;refine⟨(j+1,_),⟨yP,?_,_,hp,M⟩,yP,[0],rfl,?_⟩
    ·rw[ac];exact m
    exact yc
  |false=>
   rw[aj Q,mB]at m;cbv;repeat' (first|apply bw|exact zf|(intro J;first|exact yB Q J|cbv)|apply bG|(refine X.call (XY E B F λs1 t c=>?_);cbv))
   any_goals first|exact O|exact z
   ·have c:(s1,t)=iA env env[j].path:=by rw[<- k];exact c
    rw[Y,Z]at J;rw[<- c,if_pos (yU J)]at m;refine h _ t ?_;rw[m,fE,if_pos (show t≠0 by simpa using J)];exact dR k rfl
   ·have c:(s1,t)=iA env env[j].path:=by rw[<- k];exact c
    rw[Y,Z]at J;have h6:t=0:=yU J;rw[<- c,if_neg (show ¬t≠0 fromλe=>e h6)]at m;refine X.call (XX R (B.2 _ (bx h5)) V λl r hr N H=>?_);have hp:=G l r hr (xH N H);have M:MM (kA env[j].path (bH encS (pd env[j])) mm) (zw (env.take (j+1))):=by rw[U];exact v.put _
    refine p1 ?_;refine⟨(j+1,_),⟨yP,?_,_,hp,M⟩,yP,[0],rfl,?_⟩
    ·rw[ac];exact m
    exact yc
 ·have h5:j=g:=gY X.a a h1;have z0:E0=([],0):=by rw[m,h5,n,bZ];unfold mB;cases fM (env.map IF.path) env.length<;>rfl
  rw[h5,n,bF]at v;cbv
  refine X.K8 (λ(y:Nat)=>⟨[(74,.int .i64 y),(73,.int .i64 (A.len d)),(72,.lst 51 d),(4,.dmp 59 dM)],[]⟩)
   (λy=>y<=g/\E1=gQ (Gs env) IF.path (env.drop y)) (λy=>g-y) 0 ⟨bD _,W⟩ ?_ ?_
  ·exact⟨[0],[],[],rfl,yc⟩
  rintro q ⟨ao,u⟩;cbv;constructor<;>intro h1
  ·have h5:q<env.length:=lY X.a a h1;have R:=mA X.a E h5;have k:=R.1;have O:=iX X.a E h5;have z:=jX X.a h5;rw[bM h5,gQ]at u;refine p1 ?_;refine X.call (ZK v (LM env) ab P λb hb=>?_);cbv;repeat' (first|apply bw|exact zf|(intro J;cbv)|apply bG)
   any_goals exact z
   ·have J:b=true:=yA;have hb:b=true↔LR (zw env) env[q].path env[q].path:=by rw[<- k];exact hb
    have S8:Gs env env[q]=14:=by unfold Gs;rw[if_pos (hb.1 J)]
    rw[S8,if_pos yD]at u;refine h _ 14 ?_;rw[z0,fE,if_neg yD,u];exact dR k rfl
   ·have J:b=false:=yA;have hb:b=true↔LR (zw env) env[q].path env[q].path:=by rw[<- k];exact hb
    have S8:Gs env env[q]=0:=by unfold Gs;rw[if_neg (λe=>by have:=hb.2 e;rw[J]at this;cases this)]
    rw[S8,if_neg (by decide)]at u;exact⟨q+1,⟨yO,u⟩,yO,[],[],[],rfl,yc⟩
  ·have h5:q=g:=gY X.a a h1;cbv;refine h [] 0 ?_;rw[z0,u,h5,n,bZ];rfl
end Go.VC.cK
namespace Go.VC
section
def lB(s:S):List S->List S
 |[]=>[s]
 |x::l=>if slt x s then x::lB s l else if x=s then x::l else s::x::l
def vj{s y:S}:∀{l:List S},y∈lB s l↔y=s\/y∈l
 |[]=>by simp[lB]
 |x::l=>by
  unfold lB;split
  ·rw[bP,vj (l:=l),bP];constructor
   ·rintro(h|h|h);exact .inr (.inl h);exact .inl h;exact .inr (.inr h)
   ·rintro(h|h|h);exact .inr (.inl h);exact .inl h;exact .inr (.inr h)
  ·split
   ·rename_i h;subst h;simp
   ·simp
def zp{s:S}:∀{l:List S},mj l->mj (lB s l)
 |[],_=>by unfold lB mj;simp
 |x::l,h=>by
  obtain⟨h1,J⟩:=cJ.1 h;unfold lB;split
  ·rename_i e;refine cJ.2 ⟨λy a=>?_,zp J⟩;rcases vj.1 a with rfl|a
   ·exact e
   ·exact h1 y a
  ·rename_i e;split
   ·exact h
   ·rename_i c
    have b:slt s x=true:=by
     cases hb:slt s x with
     |true=>rfl
     |false=>exact absurd (mM (yU e) hb) c
    refine cJ.2 ⟨λy a=>?_,h⟩;rcases bP.1 a with rfl|a
    ·exact b
    ·exact mZ b (h1 y a)
def xL{s:S}:∀{l:List S}{i:Nat},i<=l.length->(∀x∈l.take i,slt x s=true)->(∀h:i<l.length,slt l[i] s=false)->
 lB s l=if l[i]? =some s then l else l.take i++s::l.drop i
 |[],i,h,_,_=>by simp at h;subst h;simp[lB]
 |x::l,0,_,_,h=>by have h0:=h yS;simp only[Io]at h0;unfold lB;rw[if_neg (by rw[h0];simp)];simp only[Hf,cr,j5,Dl,ep]
 |x::l,i+1,b,ha,h=>by have h0:=ha x yS;have a:=xL (s:=s) (l:=l) (i:=i) (yU b) (λy e=>ha y (by simp[e])) (λc=>by have:=h (yU c);simpa using this);unfold lB;rw[if_pos h0,a,gR,MX,vQ];split<;>rfl
def zq{s:S}:∀{l:List S},(lB s l).length<=l.length+1
 |[]=>by simp[lB]
 |x::l=>by
  have:=zq (s:=s) (l:=l);unfold lB;split
  ·simp;omega
  ·split<;>simp
section
variable {α:Type}{f:α->List D}{l:List α}{i:Nat}{y:α}{ys:List D}{A:qC}{d:D}
def Tu(ha:A=Std)(hd:d=bH f l):A.app (A.lit []) (A.part d 0 (br i))=bH f (l.take i):=by rw[ha,hd,nn,show Std.lit []=bH f []from rfl,cx];simp
def G1(ha:A=Std)(hd:d=bH f l)(a:ys=f y):A.app (A.app (A.lit []) (A.part d 0 (br i))) (A.lit [ys])=bH f (l.take i++[y]):=by rw[Tu ha hd,ha,a];exact cx (k:=[y])
def Tt(ha:A=Std)(hd:d=bH f l)(a:ys=f y):A.app (A.app (A.app (A.lit []) (A.part d 0 (br i))) (A.lit [ys])) (A.part d (br i) (A.len d))=bH f (l.take i++y::l.drop i):=by rw[G1 ha hd a,ha,hd,nn,cx,cT];simp[cG]
def Tn(ha:A=Std)(hd:d=bH f l)(hl:l.length<=4294967290):A.fU (A.add (A.len (A.lit [])) (A.len (A.part d 0 (br i)))) 4294967296:=by rw[ha,hd,nn,cT,show Std.lit []=bH f []from rfl,cT];exact⟨by simp[Std,ec],by simp[Std,ec];omega⟩
def Tl(ha:A=Std)(hd:d=bH f l)(hl:l.length<=4294967290):A.fU (A.add (A.len (A.app (A.lit []) (A.part d 0 (br i)))) (A.len (A.lit [ys]))) 4294967296:=by rw[Tu ha hd,ha,cT,iW];exact⟨by simp[Std,ec];omega,by simp[Std,ec];omega⟩
def Tk(ha:A=Std)(hd:d=bH f l)(b:i<=l.length)(hl:l.length<=4294967290)(a:ys=f y):A.fU (A.add (A.len (A.app (A.app (A.lit []) (A.part d 0 (br i))) (A.lit [ys]))) (A.len (A.part d (br i) (A.len d)))) 4294967296:=by rw[G1 ha hd a,ha,hd,nn,cT,cT,cT];exact⟨by simp[Std,ec];omega,by simp[Std,ec];omega⟩
end
def n9(l:List S):List S:=l.foldl (λa s=>lB s a) []
def wA:∀(l:List S)(a:List S),mj a->mj (l.foldl (λa s=>lB s a) a)/\∀y,y∈l.foldl (λa s=>lB s a) a↔y∈l\/y∈a
 |[],a,h=>⟨h,yS⟩
 |x::l,a,h=>by
  obtain⟨h1,J⟩:=wA l (lB x a) (zp h);refine⟨h1,λy=>?_⟩;rw[iG,J,vj,bP];constructor
  ·rintro(h|h|h);exact .inl (.inr h);exact .inl (.inl h);exact .inr h
  ·rintro((h|h)|h);exact .inr (.inl h);exact .inl h;exact .inr (.inr h)
def sc(l:List S):mj (n9 l):=(wA l [] (by unfold mj;simp)).1
def oX(l:List S)(y:S):y∈n9 l↔y∈l:=by unfold n9;rw[(wA l [] (by unfold mj;simp)).2];simp
def Kv{l m:List S}(h:mj l)(a:∀s,s∈l↔s∈m):l=n9 m:=Fu h (sc m) λs=>by rw[a,oX]
end
end Go.VC
namespace Go.VC.cK
open Go Go.VC Go.Proofs
end Go.VC.cK
namespace Go.VC
def me(a l:List S):List S:=l.foldl (λa s=>lB s a) a
def nj{a l:List S}{s:S}:me a (l++[s])=lB s (me a l):=by unfold me;rw[l8];rfl
def mc{l:List S}:(me [] l).length<=l.length:=by
 have key:∀(l:List S)(a:List S),(me a l).length<=a.length+l.length:=by
  intro l;induction l with
  |nil=>intro a;simp[me]
  |cons x l b=>intro a;have:=b (lB x a);have h1:=zq (s:=x) (l:=a);show (me (lB x a) l).length<=_;simp only[bS];omega
 have:=key l [];simpa using this
end Go.VC
namespace Go.VC.cK
open Go Go.VC Go.Proofs
end Go.VC.cK
namespace Go.VC
section
variable {l:List U}{s:U}
def mS(s:U):List U->List U
 |[]=>[s]
 |x::l=>if sv x s then x::mS s l else if x=s then x::l else s::x::l
def zo{y:U}:∀{l:List U},y∈mS s l↔y=s\/y∈l
 |[]=>by simp[mS]
 |x::l=>by
  unfold mS;split
  ·rw[bP,zo (l:=l),bP];constructor
   ·rintro(h|h|h);exact .inr (.inl h);exact .inl h;exact .inr (.inr h)
   ·rintro(h|h|h);exact .inr (.inl h);exact .inl h;exact .inr (.inr h)
  ·split
   ·rename_i h;subst h;simp
   ·simp
def EI:∀{l:List U},qK l->qK (mS s l)
 |[],_=>by unfold mS qK;simp
 |x::l,h=>by
  obtain⟨h1,J⟩:=cJ.1 h;unfold mS;split
  ·rename_i d;refine cJ.2 ⟨λy a=>?_,EI J⟩;rcases zo.1 a with rfl|a
   ·exact d
   ·exact h1 y a
  ·rename_i d;split
   ·exact h
   ·rename_i c
    have b:sv s x=true:=by
     cases hb:sv s x with
     |true=>rfl
     |false=>exact absurd (Cy (yU d) hb) c
    refine cJ.2 ⟨λy a=>?_,h⟩;rcases bP.1 a with rfl|a
    ·exact b
    ·exact su b (h1 y a)
def xK{s:U}:∀{l:List U}{i:Nat},i<=l.length->(∀x∈l.take i,sv x s=true)->(∀h:i<l.length,sv l[i] s=false)->
 mS s l=if l[i]? =some s then l else l.take i++s::l.drop i
 |[],i,h,_,_=>by simp at h;subst h;simp[mS]
 |x::l,0,_,_,h=>by have h0:=h yS;simp only[Io]at h0;unfold mS;rw[if_neg (by rw[h0];simp)];simp only[Hf,cr,j5,Dl,ep]
 |x::l,i+1,b,ha,h=>by have h0:=ha x (by simp);have a:=xK (s:=s) (l:=l) (i:=i) (by simpa using b) (λy d=>ha y (by simp[d])) (λc=>by have:=h (by simpa using c);simpa using this);unfold mS;rw[if_pos h0,a,gR,MX,vQ];split<;>rfl
def EJ{s:U}:∀{l:List U},(mS s l).length<=l.length+1
 |[]=>by simp[mS]
 |x::l=>by
  have:=EJ (s:=s) (l:=l);unfold mS;split
  ·simp;omega
  ·split<;>simp
def ig(a l:List U):List U:=l.foldl (λa s=>mS s a) a
def GA{a:List U}:ig a (l++[s])=mS s (ig a l):=by unfold ig;rw[l8];rfl
def qb:∀(l:List U)(a:List U),qK a->qK (ig a l)/\∀y,y∈ig a l↔y∈l\/y∈a
 |[],a,h=>⟨h,by simp[ig]⟩
 |x::l,a,h=>by
  obtain⟨h1,J⟩:=qb l (mS x a) (EI h);refine⟨h1,λy=>?_⟩;show y∈ig (mS x a) l↔_;rw[J,zo,bP];constructor
  ·rintro(h|h|h);exact .inl (.inr h);exact .inl (.inl h);exact .inr h
  ·rintro((h|h)|h);exact .inr (.inl h);exact .inl h;exact .inr (.inr h)
def wz:∀{a:List U},(ig a l).length<=a.length+l.length:=by
 induction l with
 |nil=>intro a;simp[ig]
 |cons x l b=>intro a;have:=b (a:=mS x a);have h1:=EJ (s:=x) (l:=a);show (ig (mS x a) l).length<=_;simp only[bS];omega
def j6(l:List U):List U:=ig [] l
def Fs:qK []:=by unfold qK;simp
def IE(l:List U):qK (j6 l):=(qb l [] Fs).1
def oW(l:List U)(y:U):y∈j6 l↔y∈l:=by unfold j6;rw[(qb l [] Fs).2];simp
def Ku{m:List U}(h:qK l)(a:∀s,s∈l↔s∈m):l=j6 m:=Ft h (IE m) λs=>by rw[a,oW]
def kI:(j6 l).length<=l.length:=by have:=wz (l:=l) (a:=[]);simpa[j6]using this
end
end Go.VC
namespace Go.VC.cK
open Go Go.VC Go.Proofs
end Go.VC.cK
namespace Go.VC
section
variable {l:List Ty}{i:Nat}
def Jk{a l m:List U}:ig a (l++m)=ig (ig a l) m:=by unfold ig;rw[l8]
def jD(l:List Ty):List U:=l.flatMap λu=>j6 u.fG
def Ge(h:i<l.length):jD (l.take (i+1))=jD (l.take i)++j6 l[i].fG:=by unfold jD;rw[bX h,cV];simp
def IY:(jD l).length<=(l.map Ty.size).sum:=by
 induction l with
 |nil=>simp[jD]
 |cons x l a=>have h1:=kI (l:=x.fG);have J:=hY x;unfold jD at a ⊢;simp only[eQ,bE,bO,ch];omega
def IX{y:U}:y∈jD l↔y∈l.flatMap Ty.fG:=by unfold jD;simp only[cN,oW]
def KB(t:Ty):t.self.length<=1:=by unfold Ty.self;split<;>simp
def KA(t:Ty):qK t.self:=by unfold Ty.self qK;split<;>simp
def IZ(t:Ty):ig t.self (jD t.dP)=j6 t.fG:=by obtain⟨h1,J⟩:=qb (jD t.dP) t.self (KA t);refine Ku h1 λs=>?_;rw[J,IX,Cb,bJ];exact JX
def km(t:Ty):t.dP.length+1<=t.size:=by
 rw[size_eq]
 have:∀l:List Ty,l.length<=(l.map Ty.size).sum:=by
  intro l;induction l with
  |nil=>simp
  |cons x l a=>simp only[bS,bO,ch];have:=size_eq x;omega
 have:=this t.dP;omega
def kl{α:Type}{f:α->Nat}{l:List α}:((l.take i).map f).sum<=(l.map f).sum:=by rw[FA];exact wP
def uw{t u:Ty}(h:u∈t.dP):u.size+1<=t.size:=by
 rw[size_eq t]
 have:∀l:List Ty,u∈l->u.size<=(l.map Ty.size).sum:=by
  intro l;induction l with
  |nil=>simp
  |cons x l b=>
   intro a;rcases bP.1 a with rfl|a
   ·simp
   ·have:=b a;simp;omega
 have:=this _ h;omega
end
end Go.VC
namespace Go.VC.cK
open Go Go.VC Go.Proofs
end Go.VC.cK
namespace Go.VC
def fS(e:TE):List Ty:=[e.lower,e.upper]++e.params.map (·.bound)
def jh(e:VE):List Ty:=[e.ty]++e.params.map (·.bound)
def eP(x:IF):List Ty:=x.types.flatMap fS++x.values.flatMap jh
def ta{α β:Type}{f:α->List β}{l:List α}{i:Nat}(h:i<l.length):((l.take i).flatMap f).length+(f l[i]).length<=(l.flatMap f).length:=by
 have e:l.flatMap f=(l.take (i+1)).flatMap f++(l.drop (i+1)).flatMap f:=by rw[<- cV,dG]
 rw[e,gf h,bE,bE];omega
end Go.VC
namespace Go.VC.cK
open Go Go.VC Go.Proofs
def Vl:eE:={tt:=tt,n:=96,gK:=Y1.gK,own:=[8]}
def Wn{x:IF}{F:S}{c1 c2 B E:D}{K:PV->List Ob->Prop}(hx:jN x F c1 c2 B E)(R:x.ok)(hw:(eP x).length<=4294967290)
 (h:∀r,r=bH cE (eP x)->K (.lst 29 r) []):FT 26 [] [mf F c1 c2 B E] K:=by
 obtain⟨x0,t,u,aw,au⟩:=hx;have nt:=R.nt;have nv:=R.nv;have al:(eP x).length=(x.types.flatMap fS).length+(x.values.flatMap jh).length:=by unfold eP;rw[bE]
 refine en Vl Tryz.func26 λA C L X=>?_;obtain⟨o,q,e⟩:=lenOf t;obtain⟨m,s,g⟩:=lenOf u;cbv;refine lP X (λy=>y.1<=o/\y.2=bH cE ((x.types.take y.1).flatMap fS)) (λy=>o-y.1) (0,A.lit []) ⟨bD _,yX⟩ [0,1] (λ(y:Nat×D)=>⟨[(4,.int .i64 y.1),(3,.row 29 1),(1,.box 0 0)],[.box [.str F,.lst 45 c1,.lst 99 c2,.lst 141 B,.lst 152 E],.row 29 y.2 true]⟩) ?_;rintro⟨i,r⟩ ⟨Q,hr⟩;simp only at Q hr;cbv;constructor<;>intro h1
 ·have h5:i<x.types.length:=lY X.a e h1;obtain⟨k0,p,⟨m0,m1,V,W,m4⟩,⟨u0,u1,u2,u3,u4⟩⟩:=nx X.a t h5;have z:=iX X.a t h5;have ad:=jX X.a h5;have af:=ta (f:=fS) h5;have w:=gf (f:=fS) h5;have aa:(fS x.types[i]).length=2+x.types[i].params.length:=by unfold fS;simp;omega
  have v:((x.types.take i).flatMap fS).length+2+x.types[i].params.length<=4294967290:=by first|omega|(simp only[bE];omega)
  have q1:A.app r (A.lit [[.int (A.asInt (A.cell c1 (br i) 2)),.str (A.bL (A.cell c1 (br i) 3)),.str (A.bL (A.cell c1 (br i) 4)),A.cell c1 (br i) 5,A.cell c1 (br i) 6],[.int (A.asInt (A.cell c1 (br i) 7)),.str (A.bL (A.cell c1 (br i) 8)),.str (A.bL (A.cell c1 (br i) 9)),A.cell c1 (br i) 10,A.cell c1 (br i) 11]])=bH cE ((x.types.take i).flatMap fS++[x.types[i].lower,x.types[i].upper]++(x.types[i].params.take 0).map (·.bound)):=by rw[m0,m1,V,W,m4,u0,u1,u2,u3,u4,<-dI,<-dI,X.a,hr];refine(cx (f:=cE) (k:=[x.types[i].lower,x.types[i].upper])).trans ?_;simp
  have b1:A.fU (A.add (A.len r) (A.len (A.lit [[.int (A.asInt (A.cell c1 (br i) 2)),.str (A.bL (A.cell c1 (br i) 3)),.str (A.bL (A.cell c1 (br i) 4)),A.cell c1 (br i) 5,A.cell c1 (br i) 6],[.int (A.asInt (A.cell c1 (br i) 7)),.str (A.bL (A.cell c1 (br i) 8)),.str (A.bL (A.cell c1 (br i) 9)),A.cell c1 (br i) 10,A.cell c1 (br i) 11]]))) 4294967296:=by rw[X.a,hr,cT,iW];exact⟨by rw[dO];omega,by rw[dO];simp only[bS,cH];omega⟩
  refine p1 ?_;obtain⟨N,d⟩:∃N,N=A.cell c1 (br i) 1:=⟨_,rfl⟩;rw[<- d]at p;obtain⟨a,l,c⟩:=lenOf p;refine lP X (λy=>y.1<=a/\y.2=bH cE ((x.types.take i).flatMap fS++[x.types[i].lower,x.types[i].upper]++(x.types[i].params.take y.1).map (·.bound))) (λy=>a-y.1) (0,_) ⟨bD _,q1⟩ [0,1] (λ(y:Nat×D)=>⟨[(5,.int .i64 y.1),(4,.int .i64 i),(3,.row 29 1),(1,.box 0 0)],[.box [.str F,.lst 45 c1,.lst 99 c2,.lst 141 B,.lst 152 E],.row 29 y.2 true]⟩) ?_;rintro⟨j,r2⟩ ⟨hj,b⟩;simp only at hj b;have n:A.len (A.cell c1 (br i) 1)=br a:=by rw[<- d,X.a];exact c
  cbv;refine⟨z,?_⟩;constructor<;>intro h1
  ·have h6:j<x.types[i].params.length:=by have h1:A.lt (br j) (A.len (A.cell c1 (br i) 1))=true:=h1;rw[n]at h1;obtain rfl:=X.a;simp only[SD]at h1;omega
   obtain⟨w0,w1,T,I,G,O,M⟩:=kB X.a p h6;rw[d]at T I G O M;have H:A.idx (br j) (A.len (A.cell c1 (br i) 1)):=by rw[<- d,X.a,p];exact cP h6
   have U:=jX X.a h6;have P:((x.types.take i).flatMap fS++[x.types[i].lower,x.types[i].upper]++(x.types[i].params.take j).map (·.bound)).length<=4294967290:=by simp only[bE,bQ,cZ,bS,cH]at v ⊢;omega
   have q2:A.app r2 (A.lit [[.int (A.asInt (A.cell (A.cell c1 (br i) 1) (br j) 2)),.str (A.bL (A.cell (A.cell c1 (br i) 1) (br j) 3)),.str (A.bL (A.cell (A.cell c1 (br i) 1) (br j) 4)),(A.cell (A.cell c1 (br i) 1) (br j) 5),(A.cell (A.cell c1 (br i) 1) (br j) 6)]])=bH cE ((x.types.take i).flatMap fS++[x.types[i].lower,x.types[i].upper]++(x.types[i].params.take (j+1)).map (·.bound)):=by rw[T,I,G,O,M,X.a,b,map_take h6,<-bN,<-dI];exact cx (k:=[x.types[i].params[j].bound])
   have b2:A.fU (A.add (A.len r2) (A.len (A.lit [[.int (A.asInt (A.cell (A.cell c1 (br i) 1) (br j) 2)),.str (A.bL (A.cell (A.cell c1 (br i) 1) (br j) 3)),.str (A.bL (A.cell (A.cell c1 (br i) 1) (br j) 4)),(A.cell (A.cell c1 (br i) 1) (br j) 5),(A.cell (A.cell c1 (br i) 1) (br j) 6)]]))) 4294967296:=by rw[X.a,b,cT,iW];exact⟨by rw[dO];omega,by rw[dO];simp only[bS,cH];omega⟩
   refine p1 ?_;exact⟨(j+1,_),⟨yP,q2⟩,yP,[0,1],rfl,yc⟩
  ·have h6:j=a:=by have h1:A.lt (br j) (A.len (A.cell c1 (br i) 1))=false:=h1;rw[n]at h1;obtain rfl:=X.a;simp only[SD]at h1;omega
   rw[h6,l,bF]at b;have q3:r2=bH cE ((x.types.take (i+1)).flatMap fS):=by rw[b,w];unfold fS;simp only[bN]
   refine p1 ?_;exact⟨(i+1,r2),⟨yP,q3⟩,yP,[0,1],rfl,yc⟩
 have h5:i=o:=gY X.a e h1;rw[h5,q,bF]at hr;clear h1 Q;cbv;refine lP X (λy=>y.1<=m/\y.2=bH cE (x.types.flatMap fS++(x.values.take y.1).flatMap jh)) (λy=>m-y.1) (0,r) ⟨bD _,yU hr⟩ [0,1] (λ(y:Nat×D)=>⟨[(6,.int .i64 y.1),(3,.row 29 1),(1,.box 0 0)],[.box [.str F,.lst 45 c1,.lst 99 c2,.lst 141 B,.lst 152 E],.row 29 y.2 true]⟩) ?_;rintro⟨i,r⟩ ⟨Q,hr⟩;simp only at Q hr;cbv;constructor<;>intro h1
 ·have h5:i<x.values.length:=lY X.a g h1;obtain⟨k0,p,⟨m0,m1,V,W,m4⟩⟩:=pL X.a u h5;have z:=iX X.a u h5;have ad:=jX X.a h5;have af:=ta (f:=jh) h5;have w:=gf (f:=jh) h5;have aa:(jh x.values[i]).length=1+x.values[i].params.length:=by unfold jh;simp;omega
  have v:(x.types.flatMap fS++(x.values.take i).flatMap jh).length+1+x.values[i].params.length<=4294967290:=by first|omega|(simp only[bE];omega)
  have q1:A.app r (A.lit [[.int (A.asInt (A.cell c2 (br i) 2)),.str (A.bL (A.cell c2 (br i) 3)),.str (A.bL (A.cell c2 (br i) 4)),A.cell c2 (br i) 5,A.cell c2 (br i) 6]])=bH cE (x.types.flatMap fS++(x.values.take i).flatMap jh++[x.values[i].ty]++(x.values[i].params.take 0).map (·.bound)):=by rw[m0,m1,V,W,m4,<-dI,X.a,hr];refine(cx (f:=cE) (k:=[x.values[i].ty])).trans ?_;simp
  have b1:A.fU (A.add (A.len r) (A.len (A.lit [[.int (A.asInt (A.cell c2 (br i) 2)),.str (A.bL (A.cell c2 (br i) 3)),.str (A.bL (A.cell c2 (br i) 4)),A.cell c2 (br i) 5,A.cell c2 (br i) 6]]))) 4294967296:=by rw[X.a,hr,cT,iW];exact⟨by rw[dO];omega,by rw[dO];simp only[bS,cH];omega⟩
  refine p1 ?_;obtain⟨N,d⟩:∃N,N=A.cell c2 (br i) 1:=⟨_,rfl⟩;rw[<- d]at p;obtain⟨a,l,c⟩:=lenOf p;refine lP X (λy=>y.1<=a/\y.2=bH cE (x.types.flatMap fS++(x.values.take i).flatMap jh++[x.values[i].ty]++(x.values[i].params.take y.1).map (·.bound))) (λy=>a-y.1) (0,_) ⟨bD _,q1⟩ [0,1] (λ(y:Nat×D)=>⟨[(7,.int .i64 y.1),(6,.int .i64 i),(3,.row 29 1),(1,.box 0 0)],[.box [.str F,.lst 45 c1,.lst 99 c2,.lst 141 B,.lst 152 E],.row 29 y.2 true]⟩) ?_;rintro⟨j,r2⟩ ⟨hj,b⟩;simp only at hj b;have n:A.len (A.cell c2 (br i) 1)=br a:=by rw[<- d,X.a];exact c
  cbv;refine⟨z,?_⟩;constructor<;>intro h1
  ·have h6:j<x.values[i].params.length:=by have h1:A.lt (br j) (A.len (A.cell c2 (br i) 1))=true:=h1;rw[n]at h1;obtain rfl:=X.a;simp only[SD]at h1;omega
   obtain⟨w0,w1,T,I,G,O,M⟩:=kB X.a p h6;rw[d]at T I G O M;have H:A.idx (br j) (A.len (A.cell c2 (br i) 1)):=by rw[<- d,X.a,p];exact cP h6
   have U:=jX X.a h6;have P:(x.types.flatMap fS++(x.values.take i).flatMap jh++[x.values[i].ty]++(x.values[i].params.take j).map (·.bound)).length<=4294967290:=by simp only[bE,bQ,cZ,bS,cH]at v ⊢;omega
   have q2:A.app r2 (A.lit [[.int (A.asInt (A.cell (A.cell c2 (br i) 1) (br j) 2)),.str (A.bL (A.cell (A.cell c2 (br i) 1) (br j) 3)),.str (A.bL (A.cell (A.cell c2 (br i) 1) (br j) 4)),(A.cell (A.cell c2 (br i) 1) (br j) 5),(A.cell (A.cell c2 (br i) 1) (br j) 6)]])=bH cE (x.types.flatMap fS++(x.values.take i).flatMap jh++[x.values[i].ty]++(x.values[i].params.take (j+1)).map (·.bound)):=by rw[T,I,G,O,M,X.a,b,map_take h6,<-bN,<-dI];exact cx (k:=[x.values[i].params[j].bound])
   have b2:A.fU (A.add (A.len r2) (A.len (A.lit [[.int (A.asInt (A.cell (A.cell c2 (br i) 1) (br j) 2)),.str (A.bL (A.cell (A.cell c2 (br i) 1) (br j) 3)),.str (A.bL (A.cell (A.cell c2 (br i) 1) (br j) 4)),(A.cell (A.cell c2 (br i) 1) (br j) 5),(A.cell (A.cell c2 (br i) 1) (br j) 6)]]))) 4294967296:=by rw[X.a,b,cT,iW];exact⟨by rw[dO];omega,by rw[dO];simp only[bS,cH];omega⟩
   refine p1 ?_;exact⟨(j+1,_),⟨yP,q2⟩,yP,[0,1],rfl,yc⟩
  ·have h6:j=a:=by have h1:A.lt (br j) (A.len (A.cell c2 (br i) 1))=false:=h1;rw[n]at h1;obtain rfl:=X.a;simp only[SD]at h1;omega
   rw[h6,l,bF]at b;have q3:r2=bH cE (x.types.flatMap fS++(x.values.take (i+1)).flatMap jh):=by rw[b,w];unfold jh;simp only[bN]
   refine p1 ?_;exact⟨(i+1,r2),⟨yP,q3⟩,yP,[0,1],rfl,yc⟩
 have h5:i=m:=gY X.a g h1;rw[h5,s,bF]at hr;clear h1 Q;cbv;exact h r hr
end Go.VC.cK
namespace Go.VC
section
variable {l:List Ty}{s:S}
def qW{α β:Type}{f:α->List β}{g:β->Nat}{w:α->Nat}:∀{l:List α},(∀x∈l,((f x).map g).sum<=w x)->((l.flatMap f).map g).sum<=(l.map w).sum
 |[],_=>yS
 |x::l,h=>by have a:=h x yS;have b:=qW (l:=l) (f:=f) (g:=g) (w:=w) λy c=>h y (by simp[c]);simp only[eQ,cg,ea,bO,ch];omega
def sG(l:List Pm):((l.map (·.bound)).map Ty.size).sum<=(l.map Pm.wt).sum:=by
 induction l with
 |nil=>simp
 |cons p l a=>simp only[bO,ch,Pm.wt]at a ⊢;omega
def xW(x:IF):((eP x).map Ty.size).sum+x.aliases.length<=x.wt:=by
 have a:=qW (l:=x.types) (f:=fS) (g:=Ty.size) (w:=TE.wt) λy _=>by have:=sG y.params;simp only[fS,cg,ea,bO,iL,ch,ov,TE.wt];omega
 have b:=qW (l:=x.values) (f:=jh) (g:=Ty.size) (w:=VE.wt) λy _=>by have:=sG y.params;simp only[jh,cg,ea,bO,iL,ch,ov,VE.wt];omega
 simp only[eP,cg,ea,IF.wt];omega
def PZ(t:Ty):1<=t.size:=by rw[size_eq];omega
def HY:∀l:List Ty,l.length<=(l.map Ty.size).sum
 |[]=>yS
 |t::l=>by have a:=PZ t;have b:=HY l;simp only[bS,bO,ch];omega
def xX(x:IF):(eP x).length<=x.wt:=by have a:=xW x;have b:=HY (eP x);omega
def AQ{x:IF}(a:x.ok){u:Ty}(h:u∈eP x):Ty.le 4294967295 u:=by
 unfold eP at h;rcases bJ.1 h with h|h
 ·obtain⟨e,b,hu⟩:=cN.1 h;have hk:=a.t e b;unfold fS at hu;simp only[cO,ep,bP,bT]at hu;rcases hu with rfl|rfl|⟨p,c,rfl⟩
  ·exact hk.lo
  ·exact hk.up
  ·exact hk.p p c
 ·obtain⟨e,b,hu⟩:=cN.1 h;have hk:=a.v e b;unfold jh at hu;simp only[cO,ep,bP,bT]at hu;rcases hu with rfl|⟨p,c,rfl⟩
  ·exact hk.ty
  ·exact hk.p p c
def kN(l:List Ty):List S:=l.flatMap λt=>(j6 t.fG).map (·.1)
def Gl{i:Nat}(h:i<l.length):kN (l.take (i+1))=kN (l.take i)++(j6 l[i].fG).map (·.1):=by unfold kN;rw[gf h]
def Bl(l:List Ty):(kN l).length<=(l.map Ty.size).sum:=ll λt _=>by rw[bQ];exact bR kI (hY t)
def I3:s∈kN l↔s∈l.flatMap kz:=by unfold kN kz;simp only[cN,bT,oW]
def KL{l:List Pm}:s∈(l.map (·.bound)).flatMap kz↔s∈pX l:=by
 unfold pX;simp only[cN,bT];constructor
 ·rintro⟨u,⟨p,a,rfl⟩,hs⟩;exact⟨p,a,hs⟩
 ·rintro⟨p,a,hs⟩;exact⟨_,⟨p,a,rfl⟩,hs⟩
def K2(x:IF)(s:S):s∈kN (eP x)++x.aliases.map (·.module)↔s∈uR x:=by
 have h1:∀e:TE,(s∈(fS e).flatMap kz↔s∈oy e):=λe=>by
  unfold fS oy;rw[cV,bJ,KL];simp only[eQ,qM,cA,bJ];constructor
  ·rintro((h|h)|h);exact .inl (.inr h);exact .inr h;exact .inl (.inl h)
  ·rintro((h|h)|h);exact .inr h;exact .inl (.inl h);exact .inl (.inr h)
 have J:∀e:VE,(s∈(jh e).flatMap kz↔s∈pK e):=λe=>by unfold jh pK;rw[cV,bJ,KL];simp only[eQ,qM,cA,bJ];exact JX
 rw[bJ,I3];unfold uR eP;rw[cV,bJ,bJ,bJ];have e1:s∈(x.types.flatMap fS).flatMap kz↔s∈x.types.flatMap oy:=by rw[M9];simp only[cN (l:=x.types)];exact⟨λ⟨a,b,c⟩=>⟨a,b,(h1 a).1 c⟩,λ⟨a,b,c⟩=>⟨a,b,(h1 a).2 c⟩⟩
 have e2:s∈(x.values.flatMap jh).flatMap kz↔s∈x.values.flatMap pK:=by rw[M9];simp only[cN (l:=x.values)];exact⟨λ⟨a,b,c⟩=>⟨a,b,(J a).1 c⟩,λ⟨a,b,c⟩=>⟨a,b,(J a).2 c⟩⟩
 rw[e1,e2]
def K3(i:IF):List S:=n9 (rB i)
def M4(p:S)(s:S):Bool:= !(s==p)
def Eh(x:IF):(me [] (kN (eP x)++x.aliases.map (·.module))).filter (M4 x.path)=K3 x:=by
 refine Kv (l:=(me [] _).filter _) ?_ λs=>?_
 ·have:=sc (kN (eP x)++x.aliases.map (·.module));unfold mj at this ⊢;exact List.Pairwise.filter _ this
 ·rw[jz];unfold rB;rw[jz,<-K2];have:=oX (kN (eP x)++x.aliases.map (·.module)) s;unfold n9 at this;unfold me;rw[this];simp only[M4,bne]
end
end Go.VC
namespace Go.VC.cK
open Go Go.VC Go.Proofs
end Go.VC.cK
namespace Go.VC
section
variable {α:Type}{i:Nat}
def tJ(x:IF):Nat:=((eP x).map Ty.size).sum+x.aliases.length+x.deprecated.length
def yb(env:List IF):Nat:=env.length+(env.map tJ).sum
def Jn(x:IF):tJ x+1<=x.wt:=by
 have a:=qW (l:=x.types) (f:=fS) (g:=Ty.size) (w:=TE.wt) λy _=>by have:=sG y.params;simp only[fS,cg,ea,bO,iL,ch,ov,TE.wt];omega
 have b:=qW (l:=x.values) (f:=jh) (g:=Ty.size) (w:=VE.wt) λy _=>by have:=sG y.params;simp only[jh,cg,ea,bO,iL,ch,ov,VE.wt];omega
 simp only[tJ,eP,cg,ea,IF.wt];omega
def Kx(env:List IF):yb env<=(env.map IF.wt).sum:=by
 unfold yb;induction env with
 |nil=>simp
 |cons x l a=>have:=Jn x;simp only[bS,bO,ch];omega
def x9{f:α->Nat}{l:List α}(h:i<l.length):((l.take (i+1)).map f).sum=((l.take i).map f).sum+f l[i]:=by rw[bX h,cg,ea];simp
def DF{f:α->Nat}{l:List α}(h:i<l.length):((l.take i).map f).sum+f l[i]<=(l.map f).sum:=by rw[<- x9 h];exact kl
end
end Go.VC
namespace Go.VC.cK
open Go Go.VC Go.Proofs
section
variable {K:PV->List Ob->Prop}
def TR{t:Ty}(a:Ty.le 4294967295 t)(hs:t.size<=4294967295){d:Int}{c1 c2:S}{b c:D}(e:cD t d c1 c2 b c)(h:∀r:Int,r=t.size->K (.int .i64 r) []):
 FT 20 [] [df d c1 c2 b c] K:=Ux t a hs e h
def X5{env:List IF}{d:D}(hd:d=bH dC env)(hl:dW env)(hw:(env.map IF.wt).sum<=4294967280)
 (h:∀r:Int,r=br (yb env)->K (.int .i64 r) []):FT 11 [] [.lst 51 d] K:=by
 have W:=Kx env;have hn:=hl.1;obtain⟨g,t⟩:∃g:Nat->Nat,g=λi=>env.length+((env.take i).map tJ).sum:=⟨_,rfl⟩;have g0:g 0=env.length:=by rw[t];simp
 have gs:∀i (h:i<env.length),g (i+1)=g i+tJ env[i]:=λi h=>by rw[t];simp only;rw[x9 h];omega
 have gl:∀i,g i<=yb env:=λi=>by rw[t];unfold yb;have:=kl (f:=tJ) (l:=env) (i:=i);simp only;omega
 have gn:g env.length=yb env:=by rw[t];unfold yb;simp only;rw[bF]
 clear t;refine en g11 Tryz.func11 λA C L X=>?_;obtain⟨q,n,a⟩:=lenOf hd;cbv;refine lu X (λy=>y.1<=q/\y.2=br (g y.1)) (λy=>q-y.1) (0,A.len d) ⟨bD _,by rw[X.a,a,g0,n]⟩ (λ(y:Nat×Int)=>[(4,.int .i64 y.1),(3,.int .i64 y.2)]) ?_;rintro⟨i,z⟩ ⟨hi,B⟩;simp only at hi B;cbv;constructor<;>intro h1
 ·have h5:i<env.length:=lY X.a a h1;have E:=mA X.a hd h5;have O:=iX X.a hd h5;have ae:=jX X.a h5;have o:=bx h5;have x:=hl.2 _ o;have af:env[i].wt<=(env.map IF.wt).sum:=tk o;have G:=xX env[i];have H:=gs i h5;have aa:=gl (i+1);clear h1;refine p1 ?_;refine X.call (Wn E x yO λdt c=>?_);obtain⟨ts,m⟩:∃ts,ts=eP env[i]:=⟨_,rfl⟩;have c:dt=bH cE ts:=by rw[m];exact c
  have N:∀u∈ts,Ty.le 4294967295 u:=λu hu=>AQ x (by rw[<- m];exact hu);have fL:tJ env[i]=(ts.map Ty.size).sum+env[i].aliases.length+env[i].deprecated.length:=by rw[m];rfl
  rw[<- m]at G;obtain⟨e,p,b⟩:=lenOf c;cbv;refine lu X (λy=>y.1<=e/\y.2=br (g i+((ts.take y.1).map Ty.size).sum)) (λy=>e-y.1) (0,z) ⟨bD _,yU B⟩ (λ(y:Nat×Int)=>[(6,.int .i64 y.1),(3,.int .i64 y.2)]) ?_;rintro⟨j,s⟩ ⟨Q,k⟩;simp only at Q k;cbv;constructor<;>intro h1
  ·have h6:j<ts.length:=lY X.a b h1;have k2:=gI X.a c h6;have O:=iX X.a c h6;have U:=jX X.a h6;have F:=bx h6;have M:=x9 (f:=Ty.size) h6;have R:=DF (f:=Ty.size) h6;clear h1;refine p1 ?_;refine X.call (TR (N _ F) yO k2 λv S=>?_);have I:v=br ts[j].size:=S;clear S;have w:A.add s v=br (g i+((ts.take (j+1)).map Ty.size).sum):=by rw[X.a,dO,M,k,I];simp only[bz];omega
   have P:A.inr .i64 (A.add s v):=by rw[w,X.a,dK];simp only[bz];omega
   refine p1 ?_;exact⟨(j+1,_),⟨yP,w⟩,yP,yc⟩
  have h6:j=e:=gY X.a b h1;rw[h6,p,bF]at k;clear h1 Q h6;have la:A.len (A.cell d (br i) 3)=br env[i].aliases.length:=by rw[E.2.2.2.1,X.a,cT];rfl
  have ld:A.len (A.cell d (br i) 4)=br env[i].deprecated.length:=by rw[E.2.2.2.2,X.a,cT];rfl
  have w:A.add s (A.len (A.cell d (br i) 3))=br (g i+(ts.map Ty.size).sum+env[i].aliases.length):=by rw[la,X.a,dO,k];simp only[bz];omega
  have T:A.add (A.add s (A.len (A.cell d (br i) 3))) (A.len (A.cell d (br i) 4))=br (g (i+1)):=by rw[w,ld,X.a,dO,H,fL];simp only[bz];omega
  have V:A.inr .i64 (A.add s (A.len (A.cell d (br i) 3))):=by rw[w,X.a,dK];simp only[bz];omega
  have ab:A.inr .i64 (A.add (A.add s (A.len (A.cell d (br i) 3))) (A.len (A.cell d (br i) 4))):=by rw[T,X.a,dK];simp only[bz];omega
  refine p1 ?_;exact⟨(i+1,_),⟨yP,T⟩,yP,yc⟩
 have h5:i=q:=gY X.a a h1;rw[h5,n,gn]at B;cbv;exact h z B
end
end Go.VC.cK
namespace Go.VC
end Go.VC
namespace Go.VC.cK
open Go Go.VC Go.Proofs
end Go.VC.cK
namespace Go.VC
def xa{a b:S×Int}(h:(fE a b).2=0):a.2=0/\b.2=0:=by
 unfold fE at h;by_cases e:a.2=0
 ·rw[if_neg (yU e)]at h;exact⟨e,h⟩
 ·rw[if_pos e]at h;exact absurd h e
def s5{a b:S×Int}(h:a.2=0):fE a b=b:=by unfold fE;rw[if_neg (yU h)]
def CQ{α:Type}{e:α->Int}{n:α->S}:∀{l:List α},(gQ e n l).2=0->∀x∈l,e x=0
 |[],_,x,a=>yE a
 |y::l,h,x,a=>by
  rw[gQ]at h;by_cases b:e y=0
  ·rw[if_neg (yU b)]at h;rcases bP.1 a with rfl|a
   ·exact b
   ·exact CQ h x a
  ·rw[if_pos b]at h;exact absurd h b
structure G8 (env:List IF) (i:IF):Prop where
 head:rF i=0
 names:(oH i).2=0
 diff:(rR i).2=0
 t:∀x∈i.types,nU env i x=0
 v:∀x∈i.values,sM env x=0
 a:∀x∈i.aliases,j3 env x=0
 notes:(nC i).2=0
def LB{env:List IF}{i:IF}(h:(lN env i).2=0):G8 env i/\lN env i=([],0):=by unfold lN at h ⊢;obtain⟨h0,h⟩:=xa h;obtain⟨h1,h⟩:=xa h;obtain⟨J,h⟩:=xa h;obtain⟨h3,h⟩:=xa h;obtain⟨h4,h⟩:=xa h;refine⟨?_,by rw[s5 h0,s5 h1,s5 J,s5 h3,s5 h4]⟩;have h5:=h3;unfold ka at h5;obtain⟨e1,h5⟩:=xa h5;obtain⟨e2,e3⟩:=xa h5;exact⟨h0,h1,J,CQ e1,CQ e2,CQ e3,h4⟩
def G8.iface{env:List IF}{i:IF}(h:G8 env i):lN env i=([],0):=by
 unfold lN;rw[s5 h.head,s5 h.names,s5 h.diff];have h3:ka env i=([],0):=by unfold ka;rw[zG h.t,zG h.v,zG h.a];rfl
 rw[h3,s5 rfl,s5 h.notes]
def CP{env:List IF}:∀{l:List IF}{p:Option S},(mB env p l).2=0->(∀x∈l,(iA env x.path).2=0)/\(∀q,p=some q->∀x∈l,slt q x.path=true)/\l.Pairwise (λa b=>slt a.path b.path=true)
 |[],p,_=>⟨yS,yS,yS⟩
 |x::l,none,h=>by
  rw[mB]at h;by_cases e:(iA env x.path).2=0
  ·rw[if_neg (yU e)]at h;obtain⟨a,b,c⟩:=CP h;refine⟨λy d=>?_,yS,cJ.2 ⟨b _ rfl,c⟩⟩;rcases bP.1 d with rfl|d
   ·exact e
   ·exact a y d
  ·rw[if_pos e]at h;exact absurd h e
 |x::l,some p,h=>by
  rw[mB]at h;by_cases e1:x.path=p
  ·rw[if_pos e1]at h;cases h
  ·rw[if_neg e1]at h;by_cases e2:slt x.path p=true
   ·rw[if_pos e2]at h;cases h
   ·rw[if_neg e2]at h;by_cases e:(iA env x.path).2=0
    ·rw[if_neg (yU e)]at h;obtain⟨a,b,c⟩:=CP h
     have f:slt p x.path=true:=by
      cases i:slt p x.path with
      |true=>rfl
      |false=>exact absurd (mM (yU e2) i) e1
     refine⟨λy d=>?_,λq g y d=>?_,cJ.2 ⟨b _ rfl,c⟩⟩
     ·rcases bP.1 d with rfl|d
      ·exact e
      ·exact a y d
     ·cases g;rcases bP.1 d with rfl|d
      ·exact f
      ·exact mZ f (b _ rfl y d)
    ·rw[if_pos e]at h;exact absurd h e
def GH{env:List IF}(h:env.Pairwise (λa b=>slt a.path b.path=true)){x:IF}(c:x∈env):gu env x.path=some x:=by
 unfold gu;induction env with
 |nil=>simp at c
 |cons y l d=>
  rw[cJ]at h;rw[cB];rcases bP.1 c with rfl|c
  ·simp
  ·have:(y.path==x.path)=false:=by rw[beq_eq_false_iff_ne];intro e;have:=h.1 x c;rw[e,fi]at this;cases this
   rw[this];exact d h.2 c
structure BU (env:List IF):Prop where
 Pe:env.Pairwise (λa b=>slt a.path b.path=true)
 ok:∀x∈env,G8 env x
def LX{env:List IF}(h:(nL env).2=0):BU env:=by
 unfold nL at h;by_cases e:64<env.length
 ·rw[if_pos e]at h;cases h
 ·rw[if_neg e]at h;obtain⟨h1,J⟩:=xa h;obtain⟨a,b,c⟩:=CP h1;refine⟨c,λx d=>?_⟩;have:=a x d;unfold iA at this;rw[GH c d]at this;exact(LB this).1
def Cd{env:List IF}{i:IF}{x:TE}(h:nU env i x=0):nu env (x.params.map Pm.name) x.lower=0/\nu env (x.params.map Pm.name) x.upper=0/\iU env x.lower [] x.params=true/\iU env x.upper [] x.params=true/\kZ i x=true/\ij jW x.params=0:=by
 unfold nU at h;by_cases a:ij jW x.params=0
 ·rw[if_neg (yU a)]at h;by_cases e1:fj [nu env (x.params.map Pm.name) x.lower,nu env (x.params.map Pm.name) x.upper]=0
  ·rw[if_neg (yU e1)]at h;rw[fT,fT]at e1;by_cases e2:nu env (x.params.map Pm.name) x.lower=0
   ·rw[if_pos e2]at e1;by_cases e3:nu env (x.params.map Pm.name) x.upper=0
    ·by_cases e4:(!iU env x.lower [] x.params|| !iU env x.upper [] x.params)=true
     ·rw[if_pos e4]at h;cases h
     ·rw[if_neg e4]at h;by_cases e5:kZ i x=false
      ·rw[if_pos e5]at h;cases h
      ·simp at e4;exact⟨e2,e3,e4.1,e4.2,yU e5,a⟩
    ·rw[if_neg e3]at e1;exact absurd e1 e3
   ·rw[if_neg e2]at e1;exact absurd e1 e2
  ·rw[if_pos e1]at h;exact absurd h e1
 ·rw[if_pos a]at h;exact absurd h a
def Js{α:Type}{p:α->Bool}{l:List α}{i:Nat}(h:i<l.length):(l.take (i+1)).filter p=(l.take i).filter p++(if p l[i]then [l[i]]else []):=by rw[bX h,List.filter_append];simp[Ac]
end Go.VC
namespace Go.VC.cK
open Go Go.VC Go.Proofs
end Go.VC.cK
namespace Go.VC
end Go.VC
namespace Go.VC.cK
open Go Go.VC Go.Proofs
end Go.VC.cK
namespace Go.VC
end Go.VC
namespace Go.VC.cK
open Go Go.VC Go.Proofs
end Go.VC.cK
namespace Go.VC
section
variable {env more:List IF}{vs:List S}{t:Ty}{x m n:S}{i:IF}
def rJ:∀{l:List Int},fj l=0↔∀e∈l,e=0
 |[]=>by simp[fj]
 |e::l=>by
  rw[fT];by_cases h:e=0
  ·rw[if_pos h,rJ];simp[h]
  ·rw[if_neg h];simp[h]
def AA(env more:List IF):Prop:=∀p i,gu env p=some i->gu more p=some i
def Rf:End->Bool
 | .wO _ _ _=>true
 | .val _ _ _=>true
 |_=>false
def wG(h:AA env more):∀(k:Nat)(m n:S),Rf (ib env k m n)=true->ib more k m n=ib env k m n
 |0,m,n,he=>by rw[ib]at he;cases he
 |k+1,m,n,he=>by
  have hl:j8 more m n=j8 env m n:=by
   cases hf:gu env m with
   |none=>
    have:j8 env m n= .none:=by unfold j8;rw[hf]
    rw[ib,this]at he;cases he
   |some i=>unfold j8;rw[hf,h _ _ hf]
  rw[ib,ib,hl];rw[ib]at he;cases a:j8 env m n with
  |none=>rfl
  |Bi=>rfl
  |wO x=>rfl
  |val x=>rfl
  |Rw x=>rw[a]at he;exact wG h k _ _ he
def xZ(h:AA env more)(a:(dD env m n).2.2=0):dD more m n=dD env m n:=by
 have hd:Rf (ib env 65 m n)=true:=by unfold dD at a;cases b:ib env 65 m n<;>rw[b]at a<;>first|rfl|cases a
 unfold dD;rw[wG h _ _ _ hd]
def Dt(h:AA env more)(a:(gb env m n).2.2=0):gb more m n=gb env m n:=by
 have hd:Rf (ib env 65 m n)=true:=by unfold gb at a;cases b:ib env 65 m n<;>rw[b]at a<;>first|rfl|cases a
 unfold gb;rw[wG h _ _ _ hd]
def MJ(env more:List IF)(t:Ty):Prop:=∀u∈t.all,u.k=10->dD more u.m u.n=dD env u.m u.n
def Ee(h:oF env vs t=0):∀u∈t.all,mE env vs u=0:=by intro u hu;exact rJ.1 h _ (bT.2 ⟨u,hu,rfl⟩)
def I2{u:Ty}(h:mE env vs u=0)(hk:u.k=10):(dD env u.m u.n).2.2=0/\(dD env u.m u.n).1.params.length=u.ar.length:=by
 unfold mE at h;rw[if_neg (by rw[hk];decide),if_pos hk]at h;by_cases e:(dD env u.m u.n).2.2=0
 ·rw[if_neg (yU e)]at h;by_cases e2:(dD env u.m u.n).1.params.length=u.ar.length
  ·exact⟨e,e2⟩
  ·rw[if_pos e2]at h;cases h
 ·rw[if_pos e]at h;exact absurd h e
def Dr:nu env vs t=0↔CW t=0/\oF env vs t=0:=by
 unfold nu;by_cases e:CW t=0
 ·rw[if_neg (yU e)];simp[e]
 ·rw[if_pos e];simp[e]
def B6(hs:AA env more)(h:nu env vs t=0):MJ env more t:=by intro u hu hk;exact xZ hs (I2 (Ee (Dr.1 h).2 u hu) hk).1
def uj(hs:AA env more)(h:nu env vs t=0):nu more vs t=0:=by
 have hr:=B6 hs h;obtain⟨h1,J⟩:=Dr.1 h;refine Dr.2 ⟨h1,?_⟩;refine rJ.2 λe b=>?_;obtain⟨u,hu,rfl⟩:=bT.1 b;have h3:=Ee J u hu;unfold mE at h3 ⊢;by_cases hk:u.k=10
 ·rw[hr u hu hk];exact h3
 ·by_cases a:u.k=9
  ·rw[if_pos a]at h3 ⊢;exact h3
  ·rw[if_neg a,if_neg hk]
def yW:∀{l:List Ty},(∀t∈l,nh more x t=nh env x t)->mr more x l=mr env x l
 |[],_=>rfl
 |t::l,h=>by rw[mr,mr,h t yS,yW λu hu=>h u (by simp[hu])]
def yZ{ps:List Pm}:∀{i:Nat}{l:List Ty},(∀t∈l,nh more x t=nh env x t)->my more x ps i l=my env x ps i l
 |_,[],_=>rfl
 |i,t::l,h=>by rw[my,my,h t yS,yZ λu hu=>h u (by simp[hu])]
def yY{sw:Bool}:∀{l:List Fe},(∀f∈l,nh more x f.t=nh env x f.t)->mw more x sw l=mw env x sw l
 |[],_=>rfl
 | .mk s t b::l,h=>by have h1:nh more x t=nh env x t:=h (.mk s t b) yS;rw[mw,mw,h1,yY λu hu=>h u (by simp[hu])]
def I0:∀(t:Ty),MJ env more t->nh more x t=nh env x t:=by
 refine Ty.fC λt d=>?_;intro hr;have c:∀u∈t.dP,nh more x u=nh env x u:=λu hu=>d u hu λv e=>hr v (lU hu e);cases t with
 |mk k m n ar fl=>
  rw[nh,nh];by_cases b:k=9
  ·rw[if_pos b,if_pos b]
  ·rw[if_neg b,if_neg b];have ha:∀u∈ar,nh more x u=nh env x u:=λu hu=>c u (eu _ hu);have hf:∀f∈fl,nh more x f.t=nh env x f.t:=λf hf=>c f.t (dV _ (bT.2 ⟨f,hf,rfl⟩));by_cases a:k=10
   ·rw[if_pos a,if_pos a,show dD more m n=dD env m n from hr _ (ji _) a];exact yZ ha
   ·rw[if_neg a,if_neg a,yW ha,yY hf]
def oc(h:MJ env more t):∀{ps:List Pm}{seen:List S},iU more t seen ps=iU env t seen ps
 |[],_=>rfl
 |p::l,seen=>by rw[iU,iU,I0 t h,oc h,oc h]
def AL(hs:AA env more):∀{k:Nat}{l:List Pm},tp env vs k l=0->tp more vs k l=0
 |_,[],_=>rfl
 |k,p::l,h=>by
  rw[tp]at h ⊢;by_cases e:nu env (vs.take k) p.bound=0
  ·rw[if_neg (yU e)]at h;rw[if_neg (by simpa using uj hs e)];exact AL hs h
  ·rw[if_pos e]at h;exact absurd h e
def Iy(hs:AA env more){x:TE}(h:nU env i x=0):nU more i x=0:=by obtain⟨h1,J,h3,h4,h5,h6⟩:=Cd h;unfold nU;rw[if_neg (yU h6)];rw[show fj [nu more (x.params.map Pm.name) x.lower,nu more (x.params.map Pm.name) x.upper]=0 by rw[uj hs h1,uj hs J];rfl,if_neg yD];rw[oc (B6 hs h1),oc (B6 hs J),h3,h4,h5];rfl
def Iv(hs:AA env more){x:VE}(h:sM env x=0):sM more x=0:=by
 unfold sM at h ⊢;by_cases e:ij nr x.params=0
 ·rw[if_neg (yU e)]at h ⊢;by_cases e2:tp env (x.params.map Pm.name) 0 x.params=0
  ·rw[if_neg (yU e2)]at h;rw[if_neg (by simpa using AL hs e2)];exact uj hs h
  ·rw[if_pos e2]at h;exact absurd h e2
 ·rw[if_pos e]at h;exact absurd h e
def Fm(hs:AA env more){x:AE}(h:j3 env x=0):j3 more x=0:=by
 unfold j3 at h ⊢;split
 ·rename_i e;rw[if_pos e]at h;rw[xZ hs h];exact h
 ·rename_i e;rw[if_neg e]at h;split
  ·rename_i e2;rw[if_pos e2]at h;rw[Dt hs h];exact h
  ·rename_i e2;rw[if_neg e2]at h;cases h
def G8.mono(hs:AA env more)(h:G8 env i):G8 more i:=⟨h.head,h.names,h.diff,λx a=>Iy hs (h.t x a),λx a=>Iv hs (h.v x a),λx a=>Fm hs (h.a x a),h.notes⟩
end
section
variable {ns:List S}{ts:List Ty}
def Hx{t:Ty}(h:¬(t.k=9/\0<=jO ns t.n/\jO ns t.n<ts.length)):(t.sub ns ts).dP=t.dP.map (Ty.sub ns ts):=by
 rw[kY h]
 have:∀l:List Fe,(l.map (Fe.sub ns ts)).map Fe.t=(l.map Fe.t).map (Ty.sub ns ts):=by
  intro l;induction l with
  |nil=>rfl
  |cons f l a=>simp only[bO,a];cases f;rfl
 simp only[Ty.dP,Ty.ar,Ty.fl,cg,this]
def Ci{t:Ty}(h:t.k=9/\0<=jO ns t.n/\jO ns t.n<ts.length):t.sub ns ts∈ts:=by obtain⟨a,b,c⟩:=h;rw[Ch a (i:=(jO ns t.n).toNat) yO yO];exact bx _
def Hy{P Q:Ty->Prop}(c:∀u∈ts,∀v∈u.all,Q v)
 (b:∀v,P v->¬(v.k=9/\0<=jO ns v.n/\jO ns v.n<ts.length)->Q (v.sub ns ts)):∀t:Ty,(∀v∈t.all,P v)->∀v∈(t.sub ns ts).all,Q v:=by
 refine Ty.fC λt f=>?_;intro e v a;by_cases h:t.k=9/\0<=jO ns t.n/\jO ns t.n<ts.length
 ·exact c _ (Ci h) v a
 ·rw[all_eq,Hx h]at a;rcases bP.1 a with rfl|a
  ·exact b t (e t (ji t)) h
  ·obtain⟨u,hu,a⟩:=cN.1 a;obtain⟨w,d,rfl⟩:=bT.1 hu;exact f w d (λx g=>e x (lU d g)) v a
def Ko{B:Nat}(h1:1<=B)(f:∀u∈ts,u.size<=B):∀t:Ty,(t.sub ns ts).size<=t.size*B:=by
 refine Ty.fC λt d=>?_;have g:=size_eq t;by_cases h:t.k=9/\0<=jO ns t.n/\jO ns t.n<ts.length
 ·have:=f _ (Ci h);have J:B<=t.size*B:=Nat.le_mul_of_pos_left B yO;omega
 ·have hs:∀l:List Ty,(∀u∈l,(u.sub ns ts).size<=u.size*B)->((l.map (Ty.sub ns ts)).map Ty.size).sum<=(l.map Ty.size).sum*B:=by
   intro l;induction l with
   |nil=>intro _;simp
   |cons u l c=>intro hl;have a:=hl u yS;have b:=c λv e=>hl v (by simp[e]);simp only[bO,ch,ez];omega
  have:=hs t.dP d;rw[size_eq (t.sub ns ts),Hx h,g,ez];omega
def sub_le{n:Nat}(g:∀u∈ts,Ty.le n u):∀t:Ty,Ty.le n t->Ty.le n (t.sub ns ts):=by
 refine Ty.fC λt j=>?_;intro i;by_cases h:t.k=9/\0<=jO ns t.n/\jO ns t.n<ts.length
 ·exact g _ (Ci h)
 ·rw[kY h];cases i with
  |mk _ a b c d=>
   refine .mk _ (by simpa[Ty.ar]using a) (by simpa[Ty.fl]using b) (λu hu=>?_) (λf hf=>?_)
   ·obtain⟨w,e,rfl⟩:=bT.1 hu;exact j w (eu _ e) (c w e)
   ·obtain⟨w,e,rfl⟩:=bT.1 hf;have:=j w.t (dV _ (bT.2 ⟨w,e,rfl⟩)) (d w e);cases w;exact this
def No(b:∀u∈ts,∀v∈u.all,v.mF){t:Ty}(h:∀v∈t.all,v.mF):∀v∈(t.sub ns ts).all,v.mF:=by refine Hy (P:=Ty.mF) b (λv a d=>?_) t h;rw[kY d];refine⟨a.m,a.n,λx c=>?_⟩;obtain⟨f,hf,rfl⟩:=bT.1 c;have:=a.f f hf;cases f;exact this
structure Z5 (env:List IF) (vs:List S) (t:Ty):Prop where
 le:Ty.le 4294967295 t
 mF:∀u∈t.all,u.mF
 nodes:oF env vs t=0
 sz:t.size<=4294967295
def Dz{env:List IF}{m n:S}(h:(dD env m n).2.2=0):∃i∈env,(dD env m n).1∈i.types:=by
 unfold dD at h ⊢;have a:=sD (env:=env) 65 m n;cases b:ib env 65 m n with
 |wO m' n' x=>obtain⟨i,h1,J⟩:=a.1 m' n' x b;exact⟨i,di h1,di J⟩
 |_=>rw[b]at h;cases h
end
structure Ty.uy (u:Ty):Prop where
 a:u.k=5\/u.k=8->u.ar.length=1
 r:u.k=6\/u.k=7->u.ar.length=0/\∀f∈u.fl,f.b=false
 nd:(u.fl.map Fe.s).Nodup
 k:0<=u.k/\u.k<=10
def EL:∀{l:List S},oJ l=0->l.Pairwise λa b=>slt a b=true
 |[],_=>.nil
 |[a],_=>yS
 |a::b::l,h=>by
  rw[oJ]at h;by_cases h1:a=b
  ·rw[if_pos h1]at h;cases h
  ·rw[if_neg h1]at h;by_cases J:slt b a=true
   ·rw[if_pos J]at h;cases h
   ·rw[if_neg J]at h;have e:=EL h
    have c:slt a b=true:=by
     cases f:slt a b with
     |true=>rfl
     |false=>exact absurd (mM f (yU J)) h1
    refine cJ.2 ⟨λx d=>?_,e⟩;rcases bP.1 d with rfl|d
    ·exact c
    ·exact mZ c ((cJ.1 e).1 x d)
def IC{l:List S}(h:l.Pairwise λa b=>slt a b=true):l.Nodup:=ic (λ{a b} h e=>by subst e;rw[fi]at h;cases h) h
def Ni{u:Ty}(h:qp u=0):u.uy:=by
 unfold qp at h;cases hs:gz u with
 |false=>rw[hs]at h;simp at h
 |true=>
  rw[hs,if_neg yD]at h;split at h
  ·cases h
  ·split at h
   ·cases h
   ·split at h
    ·cases h
    ·refine⟨λhk=>?_,λhk=>?_,IC (EL h),?_⟩
     ·unfold gz at hs;split at hs
      ·cases hs
      ·rcases hk with hk|hk<;>(rw[hk]at hs;simp at hs;omega)
     ·unfold gz at hs;split at hs
      ·cases hs
      ·rename_i hb;have a:∀f∈u.fl,f.b=false:=by rcases hk with hk|hk<;>(rw[hk]at hb;simpa using hb)
       refine⟨?_,a⟩;rcases hk with hk|hk<;>(rw[hk]at hs;simp at hs;simp[hs])
     ·unfold gz at hs;repeat' split at hs
      all_goals first|(cases hs;done)|omega
def B5{env:List IF}{vs:List S}{t:Ty}(h:nu env vs t=0):∀u∈t.all,u.uy:=by
 have h1:=(Dr.1 h).1;unfold CW at h1;split at h1
 ·cases h1
 ·intro u hu;exact Ni (rJ.1 h1 _ (bT.2 ⟨u,hu,rfl⟩))
def J3:∀u∈Ty.zero.all,u.uy:=by
 intro u hu;have:u=Ty.zero:=by simpa[Ty.zero,Ty.all,Ty.Aw,Ty.Ay]using hu
 subst this;exact⟨by simp[Ty.zero,Ty.k],by simp[Ty.zero,Ty.k],by simp[Ty.zero,Ty.fl],by simp[Ty.zero,Ty.k]⟩
def J4:∀u∈Ty.zero.all,u.mF:=by
 intro u hu;have:u=Ty.zero:=by simpa[Ty.zero,Ty.all,Ty.Aw,Ty.Ay]using hu
 subst this;exact⟨by simp[Ty.zero,Ty.m],by simp[Ty.zero,Ty.n],by simp[Ty.zero,Ty.fl]⟩
def Nn{ns:List S}{ts:List Ty}(b:∀u∈ts,∀v∈u.all,v.uy){t:Ty}(h:∀v∈t.all,v.uy):∀v∈(t.sub ns ts).all,v.uy:=by
 refine Hy (P:=Ty.uy) b (λv a d=>?_) t h;rw[kY d];have e1:((v.fl.map (Fe.sub ns ts)).map Fe.s)=v.fl.map Fe.s:=by rw[ju];refine hJ λf _=>?_;cases f;rfl
 refine⟨λhk=>?_,λhk=>⟨?_,λf hf=>?_⟩,?_,a.k⟩
 ·have:=a.a hk;simpa[Ty.ar]using this
 ·have:=(a.r hk).1;simpa[Ty.ar]using this
 ·obtain⟨g,c,rfl⟩:=bT.1 hf;have:=(a.r hk).2 g c;cases g;exact this
 ·show ((v.fl.map (Fe.sub ns ts)).map Fe.s).Nodup;rw[e1];exact a.nd
structure Ct (t:Ty):Prop where
 le:Ty.le 4294967295 t
 mF:∀u∈t.all,u.mF
 uy:∀u∈t.all,u.uy
structure BV (env:List IF) (ctx:List Pm) (C:List Ty):Prop where
 len:C.length<=120
 ct:∀t∈C,Ct t
 sz:∀t∈C,t.size<=200
 dP:∀t∈C,∀u∈t.dP,u∈C
 fU:∀t∈C,(dp env t).2.2=0->(dp env t).1∈C/\(dp env t).2.1∈C
 ctx:∀p∈ctx,p.bound∈C
def GI{l:List Fe}{s:S}{f:Fe}(h:c8 l s=some f):f∈l/\f.s=s:=by unfold c8 at h;exact⟨di h,by simpa using List.find?_some h⟩
def sh{sw:Bool}{k:List Fe}:∀{l:List Fe}{r:List Jm},eY sw k l=some r->∀j∈r,∃f∈l,∃g∈k,g.s=f.s/\j=if sw then(g.t,f.t)else(f.t,g.t)
 |[],r,h,j,e=>by rw[eY]at h;cases h;simp at e
 |f::l,r,h,j,e=>by
  rw[eY]at h;split at h
  ·cases h
  ·rename_i g p;split at h
   ·cases h
   ·cases i:eY sw k l with
    |none=>rw[i]at h;cases h
    |some q=>
     rw[i]at h;simp only[cu,cr]at h;subst h;obtain⟨m,n⟩:=GI p;rcases bP.1 e with rfl|e
     ·exact⟨f,yS,g,m,n,rfl⟩
     ·obtain⟨o,a,s,b,c,d⟩:=sh i j e;exact⟨o,by simp[a],s,b,c,d⟩
def Fh:∀{ps:List Pm}{xs ys:List Ty}{j:Jm},j∈oN ps xs ys->(j.1∈xs/\j.2∈ys)\/(j.1∈ys/\j.2∈xs)
 |[],xs,ys,j,h=>by simp[oN]at h
 |p::ps,[],ys,j,h=>by simp[oN]at h
 |p::ps,a::xs,[],j,h=>by simp[oN]at h
 |p::ps,a::xs,b::ys,j,h=>by
  rw[oN]at h;rcases bJ.1 h with h|h
  ·rcases bJ.1 h with h|h
   ·split at h
    ·simp at h;subst h;exact .inl ⟨yS,yS⟩
    ·simp at h
   ·split at h
    ·simp at h;subst h;exact .inr ⟨yS,yS⟩
    ·simp at h
  ·rcases Fh h with⟨h1,J⟩|⟨h1,J⟩
   ·exact .inl ⟨by simp[h1],by simp[J]⟩
   ·exact .inr ⟨by simp[h1],by simp[J]⟩
def LF{l:List Ty}(h:l.length=1):s8 l∈l:=by
 match l,h with
 |[a],_=>simp[s8]
def nN{t u:Ty}(h:u∈t.ar):u∈t.dP:=eu _ h
def CG{t:Ty}{f:Fe}(h:f∈t.fl):f.t∈t.dP:=dV _ (bT.2 ⟨f,h,rfl⟩)
def BV.closed{env:List IF}{ctx:List Pm}{C:List Ty}(h:BV env ctx C):Hb C (kU env ctx):=by
 intro s hs t d r l hl j c;have k:s.k=5\/s.k=8->s8 s.ar∈C:=λhk=>h.dP s hs _ (nN (LF (((h.ct s hs).uy s (ji s)).a hk)));have i:t.k=5\/t.k=8->s8 t.ar∈C:=λhk=>h.dP t d _ (nN (LF (((h.ct t d).uy t (ji t)).a hk)));have fs:∀f∈s.fl,f.t∈C:=λf hf=>h.dP s hs _ (CG hf);have w:∀f∈t.fl,f.t∈C:=λf hf=>h.dP t d _ (CG hf);unfold kU at hl;by_cases h1:r=1
 ·rw[if_pos h1,yF]at hl;split at hl
  ·cases hl;simp at c
  ·cases hl
 rw[if_neg h1]at hl;by_cases J:r=2
 ·rw[if_pos J,jk]at hl;by_cases hk:s.k≠t.k
  ·rw[if_pos hk]at hl;cases hl
  rw[if_neg hk]at hl;have hk:s.k=t.k:=yU hk;by_cases n:s.k=5
  ·rw[if_pos n]at hl;cases hl;simp at c;subst c;exact⟨k (.inl n),i (.inl (hk▸n))⟩
  rw[if_neg n]at hl;by_cases x:s.k=6
  ·rw[if_pos x]at hl;obtain⟨f,hf,g,m,_,rfl⟩:=sh hl j c;exact⟨fs g m,w f hf⟩
  rw[if_neg x]at hl;by_cases y:s.k=7
  ·rw[if_pos y]at hl;obtain⟨f,hf,g,m,_,rfl⟩:=sh hl j c;exact⟨fs f hf,w g m⟩
  rw[if_neg y]at hl;by_cases o:s.k=8
  ·rw[if_pos o]at hl;split at hl
   ·cases v:eY false s.fl t.fl with
    |none=>rw[v]at hl;cases hl
    |some q=>
     rw[v]at hl;simp only[cu,cr]at hl;subst hl;rcases bJ.1 c with c|c
     ·obtain⟨f,hf,g,m,_,rfl⟩:=sh v j c;exact⟨w f hf,fs g m⟩
     ·simp at c;subst c;exact⟨k (.inr o),i (.inr (hk▸o))⟩
   ·cases hl
  ·rw[if_neg o]at hl;cases hl
 rw[if_neg J]at hl;by_cases h3:r=3
 ·rw[if_pos h3,rq]at hl;split at hl
  ·cases hl
  ·split at hl
   ·cases hl
   ·cases hl;rcases Fh c with⟨a,b⟩|⟨a,b⟩
    ·exact⟨h.dP s hs _ (nN a),h.dP t d _ (nN b)⟩
    ·exact⟨h.dP t d _ (nN a),h.dP s hs _ (nN b)⟩
 rw[if_neg h3]at hl;by_cases h4:r=4
 ·rw[if_pos h4,wW]at hl;cases hb:jf env ctx s with
  |none=>rw[hb]at hl;cases hl
  |some u=>
   rw[hb]at hl;cases hl;simp at c;subst c;refine⟨?_,d⟩;unfold jf at hb;split at hb
   ·split at hb
    ·rename_i e;cases hb;exact(h.fU s hs e).2
    ·cases hb
   ·split at hb
    ·cases hf:ctx.find? λp=>p.name==s.n with
     |none=>rw[hf]at hb;cases hb
     |some p=>rw[hf]at hb;cases hb;exact h.ctx p (di hf)
    ·cases hb
 ·rw[if_neg h4,yz]at hl;split at hl
  ·rename_i e;cases hl;simp at c;subst c;exact⟨hs,(h.fU t d e).1⟩
  ·cases hl
structure Il (env:List IF) (l C:List Ty):Prop where
 len:C.length<=120
 sz:∀t∈C,t.size<=200
 init:∀t∈l,t∈C
 dP:∀t∈C,∀u∈t.dP,u∈C
 fU:∀t∈C,(dp env t).2.2=0->(dp env t).1∈C/\(dp env t).2.1∈C
def Ct.part{t u:Ty}(h:Ct t)(hu:u∈t.dP):Ct u:=⟨gP h.le u hu,λv a=>h.mF v (lU hu a),λv a=>h.uy v (lU hu a)⟩
def Ct.sub{ns:List S}{ts:List Ty}{y:Ty}(a:∀u∈ts,Ct u)(h:Ct y):Ct (y.sub ns ts):=⟨sub_le (λu hu=>(a u hu).le) y h.le,No (λu hu=>(a u hu).mF) h.mF,Nn (λu hu=>(a u hu).uy) h.uy⟩
def Ct.zero:Ct Ty.zero:=⟨ug,J4,J3⟩
def Ct.ty{env:List IF}(e:BU env)(b:∀i∈env,i.fit){i:IF}(c:i∈env){x:TE}(d:x∈i.types):Ct x.lower/\Ct x.upper:=by have a:=(b i c).t x d;obtain⟨f,g,_⟩:=Cd ((e.ok i c).t x d);exact⟨⟨a.lo.le,a.lo.mF,B5 f⟩,⟨a.up.le,a.up.mF,B5 g⟩⟩
def Ct.fU{env:List IF}(e:BU env)(c:∀i∈env,i.fit){t:Ty}(f:Ct t):Ct (dp env t).1/\Ct (dp env t).2.1:=by
 unfold dp;split
 ·exact⟨Ct.zero,Ct.zero⟩
 ·split
  ·exact⟨Ct.zero,Ct.zero⟩
  ·rename_i h1;split
   ·exact⟨Ct.zero,Ct.zero⟩
   ·obtain⟨i,g,h⟩:=Dz (yU h1);obtain⟨a,b⟩:=Ct.ty e c g h;have d:∀u∈t.ar,Ct u:=λu hu=>f.part (nN hu);exact⟨Ct.sub d a,Ct.sub d b⟩
open Classical in
def Il.Ut{env:List IF}{ctx:List Pm}{l C:List Ty}(h:Il env l C)(n:BU env)(j:∀i∈env,i.fit){k:List Ty}(hk:∀t∈k,t∈l/\Ct t)(hc:∀p∈ctx,p.bound∈k):∃m,BV env ctx m/\∀t∈k,t∈m:=by
 refine⟨C.filter λt=>decide (Ct t),?_,λt f=>jz.2 ⟨h.init t (hk t f).1,by simpa using(hk t f).2⟩⟩;have g:∀t,t∈C.filter (λt=>decide (Ct t))↔t∈C/\Ct t:=λt=>by rw[jz];simp
 refine⟨bR (th _ _) h.len,λt f=>((g t).1 f).2,λt f=>h.sz t ((g t).1 f).1,λt f u hu=>?_,λt f e=>?_,λp o=>?_⟩
 ·obtain⟨a,b⟩:=(g t).1 f;exact(g u).2 ⟨h.dP t a u hu,b.part hu⟩
 ·obtain⟨a,b⟩:=(g t).1 f;obtain⟨c,d⟩:=h.fU t a e;obtain⟨x,y⟩:=Ct.fU n j b;exact⟨(g _).2 ⟨c,x⟩,(g _).2 ⟨d,y⟩⟩
 ·obtain⟨a,b⟩:=hk _ (hc p o);exact(g _).2 ⟨h.init _ a,b⟩
end Go.VC
namespace Go.VC.cK
open Go Go.VC Go.Proofs
def ZW{l m:List Ty}{d e:D}{K:PV->List Ob->Prop}(hd:d=bH cE l)(k:e=bH cE m)(hl:l.length<4294967296)
 (E:∀x∈l,∀(y:Ty)(z:Int)(c1 c2:S)(u t:D)(d0:Int)(s d2:S)(q w:D),cD x z c1 c2 u t->cD y d0 s d2 q w->∀(r:PV->List Ob->Prop),(∀b,b=same x y->r (.bool b) [])->FT 18 [] [df z c1 c2 u t,df d0 s d2 q w] r)
 (h:∀b,b=same l m->K (.bool b) []):FT 32 [] [.lst 29 d,.lst 29 e] K:=by
 refine en YV Tryz.func32 λA C L X=>?_;obtain⟨n,v⟩:∃n,n=l.length:=⟨_,rfl⟩;have a:Std.len d=br n:=by rw[hd,cT,v];rfl
 obtain⟨H,j⟩:∃n,n=m.length:=⟨_,rfl⟩;have c:Std.len e=br H:=by rw[k,cT,j];rfl
 refine p2 (λJ=>?_) (λJ=>?_)
 ·refine h _ ?_;rw[yk];obtain rfl:=X.a;simp only[a,c,SD]at J;omega
 have F:m.length=n:=by obtain rfl:=X.a;simp only[a,c,SD]at J;omega
 refine lu X (λi=>i<=n/\l.take i=m.take i) (λi=>n-i) 0 ⟨bD _,yS⟩ (λ(i:Nat)=>[(5,.int .i64 i)]) ?_;rintro i ⟨I,ha⟩;cbv;constructor<;>intro h1
 ·have h5:i<l.length:=lY X.a a h1;have h6:i<m.length:=yO;have B:=gI X.a hd h5;have G:=gI X.a k h6;have p:=iX X.a hd h5;have o:=iX X.a k h6;cbv;refine⟨λ_=>by kernel_rfl,p,o,?_⟩;refine X.call (E _ (bx h5) _ _ _ _ _ _ _ _ _ _ _ B G _ λb hb=>?_);have f:b=same l[i] m[i]:=hb;clear hb;cbv;repeat' (first|apply bw|exact zf|(intro J;cbv)|apply bG)
  ·refine h _ ?_;have:same l[i] m[i]=false:=by rw[<- f];obtain rfl:=X.a;simpa only[SD]using J
   exact(yl h5 h6 λe=>by rw[e,jM]at this;cases this).symm
  ·obtain rfl:=X.a;simp only[a,SD]at *;omega
  ·have g:same l[i] m[i]=true:=by rw[<- f];obtain rfl:=X.a;simpa only[SD,dq]using J
   refine⟨i+1,⟨by omega,by rw[bX h5,bX h6,ha,ir.1 g]⟩,by omega,?_⟩;exact yc
 ·have h5:i=n:=gY X.a a h1;subst h5;refine h _ ?_;rw[IL yO (by rw[<- v];exact ha)]
def TW:∀(t:Ty),Ty.le 4294967295 t->∀{u:Ty}{s:Int}{c1 c2:S}{p r:D}{d0:Int}{o d2:S}{n q:D}{K:PV->List Ob->Prop},cD t s c1 c2 p r->cD u d0 o d2 n q->(∀b,b=same t u->K (.bool b) [])->FT 18 [] [df s c1 c2 p r,df d0 o d2 n q] K:=by
 refine Ty.parts λt B z=>?_;intro g u s c1 c2 p r d0 o d2 n q K ht hu h;obtain⟨T,U,N,hd,f⟩:=ht;obtain⟨Q,R,P,he,j⟩:=hu;have af:=pO g;have ab:=um g;refine en g18 Tryz.func18 λA C L X=>?_;obtain⟨d,l,a⟩:=lenOf f;obtain⟨O,w,c⟩:=lenOf j;cbv;repeat' (first|apply bw|exact zf|(intro J;cbv)|apply bG)
 ·refine h _ ?_;rw[A0 (yk _)];obtain rfl:=X.a;simp only[a,c,SD]at J;omega
 rotate_left
 ·refine h _ ?_;rw[II];rw[<- N,<-P];obtain rfl:=X.a;simpa only[SD]using J
 ·refine h _ ?_;rw[IJ];rw[<- U,<-R];obtain rfl:=X.a;simpa only[SD]using J
 ·refine h _ ?_;rw[IK];rw[<- T,<-Q];obtain rfl:=X.a;simpa only[SD]using J
 rename_i g0 g1 g2;have W:t.k=u.k:=by rw[<- T,<-Q];obtain rfl:=X.a;simpa only[SD]using g0
 have e1:t.m=u.m:=by rw[<- U,<-R];obtain rfl:=X.a;simpa only[SD]using g1
 have e2:t.n=u.n:=by rw[<- N,<-P];obtain rfl:=X.a;simpa only[SD]using g2
 have ad:u.fl.length=d:=by obtain rfl:=X.a;simp only[a,c,SD]at J;omega
 refine lu X (λi=>i<=d/\t.fl.take i=u.fl.take i) (λi=>d-i) 0 ⟨bD _,yS⟩ (λ(i:Nat)=>[(5,.int .i64 i)]) ?_;rintro i ⟨hi,ha⟩;cbv;constructor<;>intro h1
 ·have h5:i<t.fl.length:=lY X.a a h1;have h6:i<u.fl.length:=yO;have v:=kE X.a f h5;have H:=kE X.a j h6;have l1:=wF X.a f h5;have l2:=wF X.a j h6;have M:=iX X.a f h5;have I:=iX X.a j h6;have k:t.fl[i]≠u.fl[i]->same t u=false:=λe=>A0 (yl h5 h6 e);cbv;repeat' (first|apply bw|exact zf|(intro J;cbv)|apply bG)
  any_goals exact M
  any_goals exact I
  ·have hs:t.fl[i].s=u.fl[i].s:=by rw[<- l1.1,<-l2.1];rename_i g3;obtain rfl:=X.a;simpa only[SD,dq]using g3
   have G:t.fl[i].b=u.fl[i].b:=by rw[<- l1.2,<-l2.2];obtain rfl:=X.a;simpa only[SD,dq]using J
   refine X.call (z _ (bx h5) (qT g _ (bx h5)) v H λb hb=>?_);have m:b=same t.fl[i].t u.fl[i].t:=hb;clear hb;cbv;repeat' (first|apply bw|exact zf|(intro J;cbv)|apply bG)
   ·refine h _ ?_;have:same t.fl[i].t u.fl[i].t=false:=by rw[<- m];obtain rfl:=X.a;simpa only[SD]using J
    exact(k λe=>by rw[e,jM]at this;cases this).symm
   ·obtain rfl:=X.a;simp only[a,SD]at *;omega
   ·have E:same t.fl[i].t u.fl[i].t=true:=by rw[<- m];obtain rfl:=X.a;simpa only[SD,dq]using J
    refine⟨i+1,⟨by omega,by rw[bX h5,bX h6,ha,Fe.ext hs (ir.1 E) G]⟩,by omega,?_⟩;exact yc
  ·refine h _ ?_;refine(k λe=>?_).symm;rw[e]at l1;refine absurd (l1.2.trans l2.2.symm) ?_;obtain rfl:=X.a;simpa only[SD]using J
  ·refine h _ ?_;refine(k λe=>?_).symm;rw[e]at l1;refine absurd (l1.1.trans l2.1.symm) ?_;obtain rfl:=X.a;simpa only[SD]using J
 ·have h5:i=d:=gY X.a a h1;subst h5;have F:t.fl=u.fl:=AR yO (by rw[<- l];exact ha);cbv;refine X.call (ZW hd he yO (λx V y s c1 c2 p r d0 o d2 n q v H K' hK=>B x V (pP g x V) v H hK) λb hb=>?_);cbv;refine h _ ?_;rw[hb,Nx W e1 e2 F]
end Go.VC.cK
namespace Go.VC
def Fe.zero:Fe:=.mk [] Ty.zero false
def fc(j:Jm):List D:=cE j.1++cE j.2
end Go.VC
namespace Go.VC.cK
open Go Go.VC Go.Proofs
section
variable {t:Ty}{a:Int}{c1 c2:S}{f d:D}{K:PV->List Ob->Prop}
def JM(p:Ty.le 4294967295 t)(v:cD t a c1 c2 f d){s c:S}(hs:c=s)
 (h:∀u e1 e2 e3 e4 e5 e6 b,nX ((c8 t.fl s).getD Fe.zero) u e1 e2 e3 e4 e5 e6->b=(c8 t.fl s).isSome->K (.tup [oK u e1 e2 e3 e4 e5 e6,.bool b]) []):
 FT 114 [] [df a c1 c2 f d,.str c] K:=by
 subst hs;obtain⟨F,G,E,B,l⟩:=v;have x:t.fl.length<=4294967295:=by cases p;assumption
 refine en (cf 28) Tryz.func114 λA C L X=>?_;have n:=Dg X.a;obtain⟨g,k,e⟩:=lenOf l;cbv;refine lu X (λi=>i<=g/\∀y∈t.fl.take i,(y.s==c)=false) (λi=>g-i) 0 ⟨bD _,yS⟩ (λ(i:Nat)=>[(6,.int .i64 i)]) ?_;rintro i ⟨H,ha⟩;cbv;constructor<;>intro h1
 ·have h5:i<t.fl.length:=lY X.a e h1;have r:=kD X.a l h5;have w:=r.1;have q:=iX X.a l h5;have o:=jX X.a h5;have es:A.seq (A.bL (A.cell d (br i) 0)) c=(t.fl[i].s==c):=by rw[n,w]
  clear h1;cbv;repeat' (first|apply bw|exact zf|(intro J;cbv)|apply bG)
  all_goals try first|exact q|exact o
  ·have z:=es.symm.trans (show A.seq (A.bL (A.cell d (br i) 0)) c=true by assumption);have m:c8 t.fl c=some t.fl[i]:=jG h5 z ha;refine h _ _ _ _ _ _ _ _ ?_ ?_
   ·rw[m];exact r
   ·rw[m];rfl
  ·have z:=es.symm.trans (show A.seq (A.bL (A.cell d (br i) 0)) c=false by assumption);refine⟨i+1,⟨by omega,?_⟩,by omega,?_⟩
   ·rw[bX h5];intro y j;rcases bJ.1 j with j|j
    ·exact ha y j
    ·simp at j;subst j;exact z
   exact yc
 have h5:i=g:=gY X.a e h1;subst h5;rw[k,bF]at ha;have m:c8 t.fl c=none:=by unfold c8;rw[eV];intro y j;simp[ha y j]
 cbv;refine h _ _ _ _ _ _ _ _ ?_ ?_
 ·rw[m];exact⟨rfl,⟨rfl,rfl,rfl,rfl,rfl⟩,rfl⟩
 ·rw[m];rfl
def Zy{env:List IF}{H:D}(Q:H=bH dC env)(B:dW env){ctx:List Pm}{m:D}(hc:m=bH ew ctx)(T:ctx.length<=4294967295)(E:Ty.le 4294967295 t)(G:cD t a c1 c2 f d)
 (h:∀s e1 e2 e3 e4 b,(b=true->cD ((jf env ctx t).getD Ty.zero) s e1 e2 e3 e4)->b=(jf env ctx t).isSome->K (.tup [df s e1 e2 e3 e4,.bool b]) []):
 FT 77 [] [.lst 51 H,.lst 56 m,df a c1 c2 f d] K:=by
 have w:=G;obtain⟨N,W,I,U,O⟩:=w;unfold jf at h;rw[<- N,<-I]at h;refine en YD Tryz.func77 λA C L X=>?_;have Z:=mI X.a;have u:=Dg X.a;obtain⟨g,l,c⟩:=lenOf hc;by_cases j:a=10
 ·have gD:A.eq a 10=true:=by rw[Z,j];rfl
  rw[if_pos j]at h;cbv;repeat' (first|apply bw|exact zf|(intro J;first|exact yB gD J|cbv)|apply bG|(refine X.call (Wi Q B E G λs e1 e2 e3 e4 g0 g1 g2 g3 g4 r R v hr=>?_);cbv))
  refine h _ _ _ _ _ _ (λhb=>?_) ?_
  ·have hb:A.eq r 0=true:=hb;rw[Z,hr]at hb;rw[if_pos (yU hb)];exact v
  ·show A.eq r 0=_;rw[Z,hr];by_cases e:(dp env t).2.2=0
   ·rw[if_pos e,e];rfl
   ·rw[if_neg e];simpa using e
 have gD:A.eq a 10=false:=by rw[Z];simpa using j
 rw[if_neg j]at h;by_cases o:a=9
 ·have e9:A.eq a 9=true:=by rw[Z,o];rfl
  rw[if_pos o]at h;cbv;repeat' (first|apply bw|exact zf|(intro J;first|exact yB gD J|exact yB e9 J|cbv)|apply bG)
  refine lu X (λi=>i<=g/\∀y∈ctx.take i,(y.name==c2)=false) (λi=>g-i) 0 ⟨bD _,yS⟩ (λ(i:Nat)=>[(11,.int .i64 i)]) ?_;rintro i ⟨hi,ha⟩;cbv;constructor<;>intro h1
  ·have h5:i<ctx.length:=lY X.a c h1;obtain⟨M,V,P⟩:=kB X.a hc h5;have F:=iX X.a hc h5;have x:=jX X.a h5;have es:A.seq (A.bL (A.cell m (br i) 0)) c2=(ctx[i].name==c2):=by rw[u,M]
   clear h1;cbv;repeat' (first|apply bw|exact zf|(intro J;cbv)|apply bG)
   all_goals try first|exact F|exact x
   ·have z:=es.symm.trans (show A.seq (A.bL (A.cell m (br i) 0)) c2=true by assumption);have n:(ctx.find? λp=>p.name==c2)=some ctx[i]:=jG h5 z ha;refine h _ _ _ _ _ _ (λ_=>?_) ?_
    ·rw[n];exact P
    ·rw[n];rfl
   ·have z:=es.symm.trans (show A.seq (A.bL (A.cell m (br i) 0)) c2=false by assumption);refine⟨i+1,⟨by omega,?_⟩,by omega,?_⟩
    ·rw[bX h5];intro y k;rcases bJ.1 k with k|k
     ·exact ha y k
     ·simp at k;subst k;exact z
    exact yc
  have h5:i=g:=gY X.a c h1;subst h5;rw[l,bF]at ha;have n:(ctx.find? λp=>p.name==c2)=none:=by rw[eV];intro y k;simp[ha y k]
  have q:=h 0 [] [] (.list []) (.list []) false (λe=>yC e) (by rw[n];rfl);cbv;exact q
 ·have e9:A.eq a 9=false:=by rw[Z];simpa using o
  rw[if_neg o]at h;have q:=h 0 [] [] (.list []) (.list []) false (λe=>yC e) rfl;cbv;repeat' (first|apply bw|exact zf|(intro J;first|exact yB gD J|exact yB e9 J|cbv)|apply bG)
  exact q
end
end Go.VC.cK
namespace Go.VC
section
variable {X:Option (List Jm)}{sw:Bool}{c l:List Fe}{f g:Fe}{r:D}
def mb{s t:Ty}{e:Int}{a1 a2:S}{a3 a4:D}{b:Int}{b1 b2:S}{a d:D}(ha:cD s e a1 a2 a3 a4)(hb:cD t b b1 b2 a d):
 [D.int e,.str a1,.str a2,a3,a4,.int b,.str b1,.str b2,a,d]=fc (s,t):=by
 obtain⟨rfl,rfl,rfl,rfl,rfl⟩:=ha;obtain⟨rfl,rfl,rfl,rfl,rfl⟩:=hb;unfold fc;rw[dI,dI];rfl
def rG{l:List Ty}(h:0<l.length):s8 l=l[0]:=by
 match l,h with
 |a::_,_=>rfl
def H6(s t:Ty):Option (List Jm):=if Eg s.fl t.fl then(eY false s.fl t.fl).map (· ++[(s8 s.ar,s8 t.ar)])else none
def n1(X:Option (List Jm))(r:D)(b:Bool):Prop:=b=X.isSome/\∀l,X=some l->r=bH fc l
def n1.no(h:X=none):n1 X r false:=by subst h;exact⟨rfl,λl e=>yC e⟩
def n1.yes{l:List Jm}(h:X=some l)(hr:r=bH fc l):n1 X r true:=by subst h;exact⟨rfl,λl e=>by cases e;exact hr⟩
def D6(h:c8 c f.s=none):eY sw c (f::l)=none:=by rw[eY,h]
def wg(h:c8 c f.s=some g)(hb:(f.b&& !g.b)=true):eY sw c (f::l)=none:=by rw[eY,h];simp only;rw[if_pos hb]
def D7(h:c8 c f.s=some g)(hb:(f.b&& !g.b)=false):eY sw c (f::l)=(eY sw c l).map ((if sw then(g.t,f.t)else(f.t,g.t)):: ·):=by rw[eY,h];simp only;rw[if_neg (by rw[hb];decide)]
def uW{a:List Jm}{j:Jm}:(X.map (j:: ·)).map (a++ ·)=X.map (a++[j]++ ·):=by cases X<;>simp
def HU{s t:List Fe}{k:Nat}(h:k<s.length)(hf:((c8 t s[k].s).isSome||s[k].b)=false):Eg s t=false:=all_false h hf
end
end Go.VC
namespace Go.VC.cK
open Go Go.VC Go.Proofs
def S2:eE:={tt:=tt,n:=100,gK:=VU.gK,own:=[13],xz:=[30,31,75,76]}
def Xu{s t:Ty}(W:Ty.le 4294967295 s)(da:Ty.le 4294967295 t)(has:0<s.ar.length)(w:0<t.ar.length){a0:Int}{a1 a2:S}{a3 a4:D}{b0:Int}{b1 b2:S}{P n:D}(hs:cD s a0 a1 a2 a3 a4)(ht:cD t b0 b1 b2 P n){K:PV->List Ob->Prop}
 (h:∀r b,n1 (H6 s t) r b->K (.tup [.lst 97 r,.bool b]) []):
 FT 113 [] [df a0 a1 a2 a3 a4,df b0 b1 b2 P n] K:=by
 obtain⟨s0,s1,s2,O,E⟩:=id hs;obtain⟨t0,t1,t2,R,F⟩:=id ht;have an:s.fl.length<=4294967295:=by cases W;assumption
 have aq:t.fl.length<=4294967295:=by cases da;assumption
 have v:H6 s t=none->K (.tup [.lst 97 (.list []),.bool false]) []:=λe=>h _ _ (n1.no e);refine en S2 Tryz.func113 λA C L X=>?_;have Y:=fz X.a;obtain⟨p,H,d⟩:=lenOf F;obtain⟨o,B,j⟩:=lenOf E;cbv;refine lP X (λy=>y.1<=p/\eY false s.fl t.fl=(eY false s.fl (t.fl.drop y.1)).map (y.2.1++ ·)/\y.2.1.length<=y.1/\y.2.2=bH fc y.2.1) (λy=>p-y.1) (0,[],A.lit []) ⟨bD _,yS,ca _,yX⟩ [0,1,2] (λ(y:Nat×List Jm×D)=>⟨[(7,.int .i64 y.1),(6,.row 97 2),(3,.box 1 0),(2,.box 0 0)],[.box [.int .i64 a0,.str a1,.str a2,.lst 29 a3,.lst 42 a4],.box [.int .i64 b0,.str b1,.str b2,.lst 29 P,.lst 42 n],.row 97 y.2.2 true]⟩) ?_;rintro⟨k,q,r⟩ ⟨hk,x,U,hr⟩;simp only at hk x U hr;cbv;constructor<;>intro h1
 ·have h5:k<t.fl.length:=lY X.a d h1;have N:=kD X.a F h5;have k0:=N.1;have kt:=N.2.1;have V:=N.2.2;have M:=iX X.a F h5;have G:=jX X.a h5;rw[bM h5]at x;have a:eY false s.fl (t.fl[k]::t.fl.drop (k+1))=none->H6 s t=none:=λe=>by unfold H6;rw[x,e];split<;>rfl
  have hB:∀row:List D,A.fU (A.add (A.len r) (A.len (A.lit [row]))) 4294967296:=λrow=>by rw[X.a,hr];simp only[SD];omega
  clear h1;cbv;repeat' (first|apply bw|exact zf|(intro J;cbv)|apply bG|(refine X.call (JM W hs k0 λg0 g1 g2 g3 g4 g5 g6 b hg hb=>?_);cbv))
  all_goals try first|exact M|exact G
  all_goals try exact hB _
  all_goals (
   have T:A.not b=false->∃g,c8 s.fl t.fl[k].s=some g/\nX g g0 g1 g2 g3 g4 g5 g6:=λe=>by
    rw[Y,hb]at e;cases hf:c8 s.fl t.fl[k].s with
    |none=>rw[hf]at e;simp at e
    |some g=>rw[hf]at hg;exact⟨g,rfl,hg⟩
   have ag:A.not b=true->c8 s.fl t.fl[k].s=none:=λe=>by
    rw[Y,hb]at e;cases hf:c8 s.fl t.fl[k].s with
    |none=>rfl
    |some g=>rw[hf]at e;simp at e)
  all_goals first
   |(have z:A.not b=true:=yA
     exact v (a (D6 (ag z))))
   |(have z:A.not b=false:=yA
     have m:A.asBool (A.cell n (br k) 6)=true:=yA;have Q:A.not g6=true:=yA;obtain⟨g,hf,u⟩:=T z;rw[V]at m;rw[Y,u.2.2]at Q;exact v (a (wg hf (by rw[m,Q];rfl))))
   |(have z:A.not b=false:=yA
     obtain⟨g,hf,u⟩:=T z
     have af:(t.fl[k].b&& !g.b)=false:=by
      first
       |(have Q:A.not g6=false:=yA
         rw[Y,u.2.2]at Q;rw[Q,fb])
       |(have m:A.asBool (A.cell n (br k) 6)=false:=yA
         rw[V]at m;rw[m,fH])
     have q1:A.app r (A.lit [[.int (A.asInt (A.cell n (br k) 1)),.str (A.bL (A.cell n (br k) 2)),.str (A.bL (A.cell n (br k) 3)),A.cell n (br k) 4,A.cell n (br k) 5,.int g1,.str g2,.str g3,g4,g5]])=bH fc (q++[(t.fl[k].t,g.t)]):=by rw[mb kt u.2.1,X.a,hr];exact cx (k:=[(t.fl[k].t,g.t)])
     rw[D7 hf af,uW]at x;refine⟨(k+1,q++[(t.fl[k].t,g.t)],_),⟨?_,x,?_,q1⟩,?_,[0,1,2],rfl,?_⟩
     ·simp only;omega
     ·simp only[bE,bS,cH];omega
     ·simp only;omega
     exact yc)
   |skip
 ·have h5:k=p:=gY X.a d h1;rw[h5,H,bZ,eY,cu,cA]at x;have ak:q.length<=4294967295:=yO;clear h1 hk h5 U;cbv;refine lP X (λk=>k<=o/\(s.fl.take k).all (λf=>(c8 t.fl f.s).isSome||f.b)=true) (λk=>o-k) 0 ⟨bD _,rfl⟩ [0,1,2] (λ(k:Nat)=>⟨[(10,.int .i64 k),(6,.row 97 2),(3,.box 1 0),(2,.box 0 0)],[.box [.int .i64 a0,.str a1,.str a2,.lst 29 a3,.lst 42 a4],.box [.int .i64 b0,.str b1,.str b2,.lst 29 P,.lst 42 n],.row 97 r true]⟩) ?_;rintro k ⟨hk,I⟩;cbv;constructor<;>intro h1
  ·have h5:k<s.fl.length:=lY X.a j h1;have N:=kD X.a E h5;have k0:=N.1;have V:=N.2.2;have M:=iX X.a E h5;have G:=jX X.a h5;have a:((c8 t.fl s.fl[k].s).isSome||s.fl[k].b)=false->H6 s t=none:=λe=>by unfold H6;rw[HU h5 e];rfl
   have ah:((c8 t.fl s.fl[k].s).isSome||s.fl[k].b)=true->(s.fl.take (k+1)).all (λf=>(c8 t.fl f.s).isSome||f.b)=true:=λe=>pA h5 I e;clear h1;cbv;repeat' (first|apply bw|exact zf|(intro J;cbv)|apply bG|(refine X.call (JM da ht k0 λg0 g1 g2 g3 g4 g5 g6 b hg hb=>?_);cbv))
   all_goals try first|exact M|exact G
   all_goals first
    |(have z:A.not b=true:=yA
      have m:A.not (A.asBool (A.cell a4 (br k) 6))=true:=yA;rw[Y,hb]at z;rw[Y,V]at m;exact v (a (by simp at z m;simp[z,m])))
    |(have e:((c8 t.fl s.fl[k].s).isSome||s.fl[k].b)=true:=by
       first
        |(have z:A.not b=false:=yA
          rw[Y,hb]at z;have z:(c8 t.fl s.fl[k].s).isSome=true:=yU z;rw[z];rfl)
        |(have m:A.not (A.asBool (A.cell a4 (br k) 6))=false:=yA
          rw[Y,V]at m;have m:s.fl[k].b=true:=yU m;rw[m,ow])
      exact⟨k+1,⟨yO,ah e⟩,yO,[0,1,2],rfl,yc⟩)
    |skip
  ·have h5:k=o:=gY X.a j h1;rw[h5,B,bF]at I;have hF:H6 s t=some (q++[(s8 s.ar,s8 t.ar)]):=by unfold H6 Eg;rw[I,if_pos rfl,x];rfl
   have i1:A.idx 0 (A.len a3):=by rw[X.a,O];exact cP (i:=0) has
   have i2:A.idx 0 (A.len P):=by rw[X.a,R];exact cP (i:=0) w
   have y1:=gI X.a O has;have y2:=gI X.a R w;have hB:∀row:List D,A.fU (A.add (A.len r) (A.len (A.lit [row]))) 4294967296:=λrow=>by rw[X.a,hr];simp only[SD];omega
   have q1:=mb y1 y2;clear h1 hk h5;cbv;repeat' (first|apply bw|exact zf|(intro J;cbv)|apply bG)
   all_goals try first|exact i1|exact i2|exact hB _
   refine h _ _ (n1.yes hF ?_);rw[rG has,rG w];refine ku (congrArg (λz=>A.app r (A.lit [z])) q1) ?_;rw[X.a,hr];exact cx (k:=[(s.ar[0],t.ar[0])])
end Go.VC.cK
namespace Go.VC
section
variable {s t:Ty}{l a b:List Fe}{f:Fe}
def pR(a b:List Fe):List Fe->Option (List Jm)
 |[]=>some []
 |f::l=>match c8 a f.s,c8 b f.s with
  |some x,some y=>(pR a b l).map ((x.t,y.t):: ·)
  |_,_=>none
def xl(c:(l.map Fe.s).Nodup)(hf:f∈l):c8 l f.s=some f:=by
 unfold c8;induction l with
 |nil=>simp at hf
 |cons x l d=>
  rw[bO,cn]at c;rw[cB];rcases bP.1 hf with rfl|hf
  ·simp
  ·have:(x.s==f.s)=false:=by rw[beq_eq_false_iff_ne];intro e;exact c.1 (by rw[e];exact bT.2 ⟨f,hf,rfl⟩)
   rw[this];exact d c.2 hf
def DJ{a b:List Fe}(c:(b.map Fe.s).Nodup)(hb:∀f∈b,f.b=false):∀l,(∀f∈l,f∈b)->pR a b l=eY true a l
 |[],_=>rfl
 |f::l,h=>by
  have hf:=h f (by simp);have d:=DJ (a:=a) c hb l λg e=>h g (by simp[e]);rw[pR,eY,xl c hf,d];cases c8 a f.s with
  |none=>rfl
  |some g=>simp[hb f hf]
def DI{a b:List Fe}(c:(a.map Fe.s).Nodup)(hb:∀f∈a,f.b=false):∀l,(∀f∈l,f∈a)->pR a b l=eY false b l
 |[],_=>rfl
 |f::l,h=>by
  have hf:=h f (by simp);have d:=DI (b:=b) c hb l λg e=>h g (by simp[e]);rw[pR,eY,xl c hf,d];cases c8 b f.s with
  |none=>rfl
  |some g=>simp[hb f hf]
def HC{x y:Fe}(h1:c8 a f.s=some x)(J:c8 b f.s=some y):pR a b (f::l)=(pR a b l).map ((x.t,y.t):: ·):=by rw[pR,h1,J]
def HB(h1:c8 a f.s=none):pR a b (f::l)=none:=by rw[pR,h1]
def HA(J:c8 b f.s=none):pR a b (f::l)=none:=by rw[pR,J];cases c8 a f.s<;>rfl
def A8(hs:s.uy)(d:t.uy)(hk:s.k=t.k)(c:s.k=6\/s.k=7):jk s t=pR s.fl t.fl (if s.k=7 then s.fl else t.fl):=by
 unfold jk;rw[if_neg (yU hk)];rcases c with h|h
 ·have J:t.k=6:=by rw[<- hk];exact h
  rw[if_neg yO,if_pos h,if_neg yO];exact(DJ d.nd (d.r (.inl J)).2 _ λf hf=>hf).symm
 ·rw[if_neg yO,if_neg yO,if_pos h,if_pos h];exact(DI hs.nd (hs.r (.inr h)).2 _ λf hf=>hf).symm
def HM(h:s.k≠t.k):jk s t=none:=by unfold jk;rw[if_pos h]
def HO(h:s.k=t.k)(h5:s.k=5):jk s t=some [(s8 s.ar,s8 t.ar)]:=by unfold jk;rw[if_neg (yU h),if_pos h5]
def HN(h:s.k=t.k)(h8:s.k=8):jk s t=H6 s t:=by unfold jk H6;rw[if_neg (yU h),if_neg yO,if_neg yO,if_neg yO,if_pos h8]
def HL(h5:s.k≠5)(h6:s.k≠6)(h7:s.k≠7)(h8:s.k≠8):jk s t=none:=by
 unfold jk;by_cases hk:s.k≠t.k
 ·rw[if_pos hk]
 ·rw[if_neg hk,if_neg h5,if_neg h6,if_neg h7,if_neg h8]
end
end Go.VC
namespace Go.VC.cK
open Go Go.VC Go.Proofs
def U2:eE:={tt:=tt,n:=96,gK:=YF.gK,own:=[54],xz:=[69,70,79,80],qk:=[16,17]}
def Zz{s t:Ty}(Q:Ty.le 4294967295 s)(da:Ty.le 4294967295 t)(P:s.uy)(O:t.uy){c:Int}{a1 a2:S}{a3 a4:D}{v:Int}{b1 b2:S}{N E:D}(hs:cD s c a1 a2 a3 a4)(ht:cD t v b1 b2 N E){K:PV->List Ob->Prop}
 (h:∀r b,n1 (jk s t) r b->K (.tup [.lst 97 r,.bool b]) []):
 FT 75 [] [df c a1 a2 a3 a4,df v b1 b2 N E] K:=by
 obtain⟨s0,s1,s2,aj,W⟩:=id hs;obtain⟨t0,t1,t2,av,aa⟩:=id ht;have aJ:s.fl.length<=4294967295:=by cases Q;assumption
 have aO:t.fl.length<=4294967295:=by cases da;assumption
 have o:jk s t=none->K (.tup [.lst 97 (.list []),.bool false]) []:=λe=>h _ _ (n1.no e);refine en U2 Tryz.func75 λA C L X=>?_;have Y:=fz X.a;have Z:=mI X.a;have M:A.not (A.eq c v)= !(s.k==t.k):=by rw[Y,Z,s0,t0]
 have e5:A.eq c 5=(s.k==5):=by rw[Z,s0]
 have e8:A.eq c 8=(s.k==8):=by rw[Z,s0]
 have e6:A.not (A.eq c 6)= !(s.k==6):=by rw[Y,Z,s0]
 have e7:A.eq c 7=(s.k==7):=by rw[Z,s0]
 have p:A.not (A.eq c 7)= !(s.k==7):=by rw[Y,e7]
 cbv;by_cases hk:s.k=t.k
 ·have M:A.not (A.eq c v)=false:=by rw[M];simpa using hk
  by_cases h5:s.k=5
  ·have has:0<s.ar.length:=by rw[P.a (.inl h5)];decide
   have u:0<t.ar.length:=by rw[O.a (.inl (by rw[<- hk];exact h5))];decide
   have e5:A.eq c 5=true:=by rw[e5];simpa using h5
   have i1:A.idx 0 (A.len a3):=by rw[X.a,aj];exact cP (i:=0) has
   have i2:A.idx 0 (A.len N):=by rw[X.a,av];exact cP (i:=0) u
   have q1:=mb (gI X.a aj has) (gI X.a av u);repeat' (first|apply bw|exact zf|(intro J;first|exact yB M J|exact yB e5 J|cbv)|apply bG)
   all_goals try first|exact i1|exact i2
   refine h _ _ (n1.yes (HO hk h5) ?_);rw[rG has,rG u];refine ku (congrArg (λz=>A.lit [z]) q1) ?_;rw[X.a];rfl
  have e5:A.eq c 5=false:=by rw[e5];simpa using h5
  by_cases h8:s.k=8
  ·have has:0<s.ar.length:=by rw[P.a (.inr h8)];decide
   have u:0<t.ar.length:=by rw[O.a (.inr (by rw[<- hk];exact h8))];decide
   have e8:A.eq c 8=true:=by rw[e8];simpa using h8
   repeat' (first|apply bw|exact zf|(intro J;first|exact yB M J|exact yB e5 J|exact yB e8 J|cbv)|apply bG|(refine X.call (Xu Q da has u hs ht λr b aB=>?_);cbv))
   exact h _ _ (by rw[HN hk h8];exact aB)
  have e8:A.eq c 8=false:=by rw[e8];simpa using h8
  by_cases h6:s.k=6
  ·have e6:A.not (A.eq c 6)=false:=by rw[e6,h6];rfl
   have e7:A.eq c 7=false:=by rw[e7,h6];rfl
   have hp:jk s t=pR s.fl t.fl t.fl:=by rw[A8 P O hk (.inl h6),if_neg yO]
   obtain⟨H,ad,g⟩:=lenOf aa;repeat' (first|apply bw|exact zf|(intro J;first|exact yB M J|exact yB e5 J|exact yB e8 J|exact yB e6 J|exact yB e7 J|cbv)|apply bG)
   refine lP X (λy=>y.1<=H/\jk s t=(pR s.fl t.fl (t.fl.drop y.1)).map (y.2.1++ ·)/\y.2.1.length<=y.1/\y.2.2=bH fc y.2.1) (λy=>H-y.1) (0,[],A.lit []) ⟨bD _,by rw[hp];simp,ca _,yX⟩ [0,1,2] (λ(y:Nat×List Jm×D)=>⟨[(8,.int .i64 y.1),(7,.row 97 2),(6,.lst 42 E),(3,.box 1 0),(2,.box 0 0)],[.box [.int .i64 c,.str a1,.str a2,.lst 29 a3,.lst 42 a4],.box [.int .i64 v,.str b1,.str b2,.lst 29 N,.lst 42 E],.row 97 y.2.2 true]⟩) ?_;rintro⟨k,x,r⟩ ⟨T,d,ai,hr⟩;simp only at T d ai hr;cbv;constructor<;>intro h1
   ·have h5:k<t.fl.length:=lY X.a g h1;have k0:=(kD X.a aa h5).1;have I:=iX X.a aa h5;have ab:=jX X.a h5;have hB:∀row:List D,A.fU (A.add (A.len r) (A.len (A.lit [row]))) 4294967296:=λrow=>by rw[X.a,hr];simp only[SD];omega
    rw[bM h5]at d;clear h1
    refine X.cut (λ(z:(S×Int×S×S×D×D×Bool)×Bool)=>⟨[(10,.bool z.2),(9,.box 3 0),(8,.int .i64 k),(7,.row 97 2),(6,.lst 42 E),(3,.box 1 0),(2,.box 0 0)],[.box [.int .i64 c,.str a1,.str a2,.lst 29 a3,.lst 42 a4],.box [.int .i64 v,.str b1,.str b2,.lst 29 N,.lst 42 E],.row 97 r true,.box [.str z.1.1,.int .i64 z.1.2.1,.str z.1.2.2.1,.str z.1.2.2.2.1,.lst 29 z.1.2.2.2.2.1,.lst 42 z.1.2.2.2.2.2.1,.bool z.1.2.2.2.2.2.2]]⟩)
     (λz=>nX ((c8 s.fl t.fl[k].s).getD Fe.zero) z.1.1 z.1.2.1 z.1.2.2.1 z.1.2.2.2.1 z.1.2.2.2.2.1 z.1.2.2.2.2.2.1 z.1.2.2.2.2.2.2/\z.2=(c8 s.fl t.fl[k].s).isSome) ?_ ?_
    ·cbv;repeat' (first|apply bw|exact zf|(intro J;cbv)|apply bG|(refine X.call (JM Q hs k0 λg0 g1 g2 g3 g4 g5 g6 b U hb=>?_);cbv))
     all_goals try exact I
     all_goals (refine⟨((g0,g1,g2,g3,g4,g5,g6),b),⟨U,hb⟩,[0,1,2,3],rfl,?_⟩;exact yc)
    rintro⟨⟨x0,x1,x2,x3,x4,x5,x6⟩,R⟩ ⟨hx,m⟩;simp only at hx m;cbv
    refine X.cut (λ(z:(S×Int×S×S×D×D×Bool)×Bool)=>⟨[(12,.bool z.2),(11,.box 4 0),(10,.bool R),(9,.box 3 0),(8,.int .i64 k),(7,.row 97 2),(6,.lst 42 E),(3,.box 1 0),(2,.box 0 0)],[.box [.int .i64 c,.str a1,.str a2,.lst 29 a3,.lst 42 a4],.box [.int .i64 v,.str b1,.str b2,.lst 29 N,.lst 42 E],.row 97 r true,.box [.str x0,.int .i64 x1,.str x2,.str x3,.lst 29 x4,.lst 42 x5,.bool x6],.box [.str z.1.1,.int .i64 z.1.2.1,.str z.1.2.2.1,.str z.1.2.2.2.1,.lst 29 z.1.2.2.2.2.1,.lst 42 z.1.2.2.2.2.2.1,.bool z.1.2.2.2.2.2.2]]⟩)
     (λz=>nX ((c8 t.fl t.fl[k].s).getD Fe.zero) z.1.1 z.1.2.1 z.1.2.2.1 z.1.2.2.2.1 z.1.2.2.2.2.1 z.1.2.2.2.2.2.1 z.1.2.2.2.2.2.2/\z.2=(c8 t.fl t.fl[k].s).isSome) ?_ ?_
    ·cbv;repeat' (first|apply bw|exact zf|(intro J;cbv)|apply bG|(refine X.call (JM da ht k0 λg0 g1 g2 g3 g4 g5 g6 b U hb=>?_);cbv))
     all_goals try exact I
     all_goals (refine⟨((g0,g1,g2,g3,g4,g5,g6),b),⟨U,hb⟩,[0,1,2,3,4],rfl,?_⟩;exact yc)
    rintro⟨⟨y0,y1,y2,y3,y4,y5,y6⟩,w⟩ ⟨hy,n⟩;simp only at hy n;cbv;repeat' (first|apply bw|exact zf|(intro J;cbv)|apply bG)
    all_goals try first|exact ab|exact hB _
    all_goals first
     |(have z:A.not R=true:=yA
       rw[Y,m]at z;have hn:c8 s.fl t.fl[k].s=none:=yU z;rw[HB hn]at d;exact o d)
     |(have z:A.not w=true:=yA
       rw[Y,n]at z;have hn:c8 t.fl t.fl[k].s=none:=yU z;rw[HA hn]at d;exact o d)
     |(have zx:A.not R=false:=yA
       have zy:A.not w=false:=yA;rw[Y,m]at zx;rw[Y,n]at zy;obtain⟨fx,F⟩:=dy.1 (show (c8 s.fl t.fl[k].s).isSome=true by simpa using zx);obtain⟨fy,B⟩:=dy.1 (show (c8 t.fl t.fl[k].s).isSome=true by simpa using zy);rw[F]at hx;rw[B]at hy;have q1:A.app r (A.lit [[.int x1,.str x2,.str x3,x4,x5,.int y1,.str y2,.str y3,y4,y5]])=bH fc (x++[(fx.t,fy.t)]):=by rw[mb hx.2.1 hy.2.1,X.a,hr];exact cx (k:=[(fx.t,fy.t)])
       rw[HC F B,uW]at d;refine⟨(k+1,x++[(fx.t,fy.t)],_),⟨?_,d,?_,q1⟩,?_,[0,1,2],rfl,?_⟩
       ·simp only;omega
       ·simp only[bE,bS,cH];omega
       ·simp only;omega
       exact yc)
     |skip
   ·have h5:k=H:=gY X.a g h1;rw[h5,ad,bZ,pR,cu,cA]at d;have q:=h r true (n1.yes d hr);cbv;exact q
  by_cases h7:s.k=7
  ·have e6:A.not (A.eq c 6)=true:=by rw[e6,h7];rfl
   have e7:A.eq c 7=true:=by rw[e7,h7];rfl
   have p:A.not (A.eq c 7)=false:=by rw[p,h7];rfl
   have hp:jk s t=pR s.fl t.fl s.fl:=by rw[A8 P O hk (.inr h7),if_pos h7]
   obtain⟨G,V,j⟩:=lenOf W;repeat' (first|apply bw|exact zf|(intro J;first|exact yB M J|exact yB e5 J|exact yB e8 J|exact yB e6 J|exact yB e7 J|exact yB p J|cbv)|apply bG)
   refine lP X (λy=>y.1<=G/\jk s t=(pR s.fl t.fl (s.fl.drop y.1)).map (y.2.1++ ·)/\y.2.1.length<=y.1/\y.2.2=bH fc y.2.1) (λy=>G-y.1) (0,[],A.lit []) ⟨bD _,by rw[hp];simp,ca _,yX⟩ [0,1,2] (λ(y:Nat×List Jm×D)=>⟨[(8,.int .i64 y.1),(7,.row 97 2),(6,.lst 42 a4),(3,.box 1 0),(2,.box 0 0)],[.box [.int .i64 c,.str a1,.str a2,.lst 29 a3,.lst 42 a4],.box [.int .i64 v,.str b1,.str b2,.lst 29 N,.lst 42 E],.row 97 y.2.2 true]⟩) ?_;rintro⟨k,x,r⟩ ⟨T,d,ai,hr⟩;simp only at T d ai hr;cbv;constructor<;>intro h1
   ·have h5:k<s.fl.length:=lY X.a j h1;have k0:=(kD X.a W h5).1;have I:=iX X.a W h5;have ab:=jX X.a h5;have hB:∀row:List D,A.fU (A.add (A.len r) (A.len (A.lit [row]))) 4294967296:=λrow=>by rw[X.a,hr];simp only[SD];omega
    rw[bM h5]at d;clear h1
    refine X.cut (λ(z:(S×Int×S×S×D×D×Bool)×Bool)=>⟨[(10,.bool z.2),(9,.box 3 0),(8,.int .i64 k),(7,.row 97 2),(6,.lst 42 a4),(3,.box 1 0),(2,.box 0 0)],[.box [.int .i64 c,.str a1,.str a2,.lst 29 a3,.lst 42 a4],.box [.int .i64 v,.str b1,.str b2,.lst 29 N,.lst 42 E],.row 97 r true,.box [.str z.1.1,.int .i64 z.1.2.1,.str z.1.2.2.1,.str z.1.2.2.2.1,.lst 29 z.1.2.2.2.2.1,.lst 42 z.1.2.2.2.2.2.1,.bool z.1.2.2.2.2.2.2]]⟩)
     (λz=>nX ((c8 s.fl s.fl[k].s).getD Fe.zero) z.1.1 z.1.2.1 z.1.2.2.1 z.1.2.2.2.1 z.1.2.2.2.2.1 z.1.2.2.2.2.2.1 z.1.2.2.2.2.2.2/\z.2=(c8 s.fl s.fl[k].s).isSome) ?_ ?_
    ·cbv;repeat' (first|apply bw|exact zf|(intro J;cbv)|apply bG|(refine X.call (JM Q hs k0 λg0 g1 g2 g3 g4 g5 g6 b U hb=>?_);cbv))
     all_goals try exact I
     all_goals (refine⟨((g0,g1,g2,g3,g4,g5,g6),b),⟨U,hb⟩,[0,1,2,3],rfl,?_⟩;exact yc)
    rintro⟨⟨x0,x1,x2,x3,x4,x5,x6⟩,R⟩ ⟨hx,m⟩;simp only at hx m;cbv
    refine X.cut (λ(z:(S×Int×S×S×D×D×Bool)×Bool)=>⟨[(12,.bool z.2),(11,.box 4 0),(10,.bool R),(9,.box 3 0),(8,.int .i64 k),(7,.row 97 2),(6,.lst 42 a4),(3,.box 1 0),(2,.box 0 0)],[.box [.int .i64 c,.str a1,.str a2,.lst 29 a3,.lst 42 a4],.box [.int .i64 v,.str b1,.str b2,.lst 29 N,.lst 42 E],.row 97 r true,.box [.str x0,.int .i64 x1,.str x2,.str x3,.lst 29 x4,.lst 42 x5,.bool x6],.box [.str z.1.1,.int .i64 z.1.2.1,.str z.1.2.2.1,.str z.1.2.2.2.1,.lst 29 z.1.2.2.2.2.1,.lst 42 z.1.2.2.2.2.2.1,.bool z.1.2.2.2.2.2.2]]⟩)
     (λz=>nX ((c8 t.fl s.fl[k].s).getD Fe.zero) z.1.1 z.1.2.1 z.1.2.2.1 z.1.2.2.2.1 z.1.2.2.2.2.1 z.1.2.2.2.2.2.1 z.1.2.2.2.2.2.2/\z.2=(c8 t.fl s.fl[k].s).isSome) ?_ ?_
    ·cbv;repeat' (first|apply bw|exact zf|(intro J;cbv)|apply bG|(refine X.call (JM da ht k0 λg0 g1 g2 g3 g4 g5 g6 b U hb=>?_);cbv))
     all_goals try exact I
     all_goals (refine⟨((g0,g1,g2,g3,g4,g5,g6),b),⟨U,hb⟩,[0,1,2,3,4],rfl,?_⟩;exact yc)
    rintro⟨⟨y0,y1,y2,y3,y4,y5,y6⟩,w⟩ ⟨hy,n⟩;simp only at hy n;cbv;repeat' (first|apply bw|exact zf|(intro J;cbv)|apply bG)
    all_goals try first|exact ab|exact hB _
    all_goals first
     |(have z:A.not R=true:=yA
       rw[Y,m]at z;have hn:c8 s.fl s.fl[k].s=none:=yU z;rw[HB hn]at d;exact o d)
     |(have z:A.not w=true:=yA
       rw[Y,n]at z;have hn:c8 t.fl s.fl[k].s=none:=yU z;rw[HA hn]at d;exact o d)
     |(have zx:A.not R=false:=yA
       have zy:A.not w=false:=yA;rw[Y,m]at zx;rw[Y,n]at zy;obtain⟨fx,F⟩:=dy.1 (show (c8 s.fl s.fl[k].s).isSome=true by simpa using zx);obtain⟨fy,B⟩:=dy.1 (show (c8 t.fl s.fl[k].s).isSome=true by simpa using zy);rw[F]at hx;rw[B]at hy;have q1:A.app r (A.lit [[.int x1,.str x2,.str x3,x4,x5,.int y1,.str y2,.str y3,y4,y5]])=bH fc (x++[(fx.t,fy.t)]):=by rw[mb hx.2.1 hy.2.1,X.a,hr];exact cx (k:=[(fx.t,fy.t)])
       rw[HC F B,uW]at d;refine⟨(k+1,x++[(fx.t,fy.t)],_),⟨?_,d,?_,q1⟩,?_,[0,1,2],rfl,?_⟩
       ·simp only;omega
       ·simp only[bE,bS,cH];omega
       ·simp only;omega
       exact yc)
     |skip
   ·have h5:k=G:=gY X.a j h1;rw[h5,V,bZ,pR,cu,cA]at d;have q:=h r true (n1.yes d hr);cbv;exact q
  ·have e6:A.not (A.eq c 6)=true:=by rw[e6];simpa using h6
   have p:A.not (A.eq c 7)=true:=by rw[p];simpa using h7
   have q:=o (HL h5 h6 h7 h8);repeat' (first|apply bw|exact zf|(intro J;first|exact yB M J|exact yB e5 J|exact yB e8 J|exact yB e6 J|exact yB p J|cbv)|apply bG)
   exact q
 ·have q:=o (HM hk);have M:A.not (A.eq c v)=true:=by rw[M];simpa using hk
  repeat' (first|apply bw|exact zf|(intro J;first|exact yB M J|cbv)|apply bG)
  exact q
end Go.VC.cK
namespace Go.VC
section
variable {ps:List Pm}{xs ys:List Ty}
def AM(v:Int)(a b:Ty):List Jm:=(if v≠1 then [(a,b)]else [])++(if v≠0 then [(b,a)]else [])
def OF{k:Nat}(h1:k<ps.length)(J:k<xs.length)(h3:k<ys.length):
 oN (ps.drop k) (xs.drop k) (ys.drop k)=AM ps[k].var xs[k] ys[k]++oN (ps.drop (k+1)) (xs.drop (k+1)) (ys.drop (k+1)):=by
 rw[bM h1,bM J,bM h3,oN];rfl
def Nf(v:Int)(a b:Ty):(AM v a b).length<=2:=by unfold AM;split<;>split<;>simp
def Ms(h:ps.length=0):oN ps xs ys=[]:=by have:ps=[]:=cz h;subst this;rfl
def KK{env:List IF}{s t:Ty}(hk:¬(s.k≠10\/t.k≠10)){r0 c b d:S}{r2 e f:Int}(hr:(r0,c,r2)=fZ env s.m s.n)(g:(b,d,e)=fZ env t.m t.n)(h:f=(dD env s.m s.n).2.2)(a:ps=(dD env s.m s.n).1.params):
 rq env s t=if r2≠0\/e≠0\/f≠0\/r0≠b\/c≠d\/s.ar.length≠ps.length\/t.ar.length≠ps.length then none else some (oN ps s.ar t.ar):=by
 unfold rq;rw[if_neg hk,<-hr,<-g,<-h,<-a]
end
end Go.VC
namespace Go.VC.cK
open Go Go.VC Go.Proofs
def U1:eE:={tt:=tt,n:=146,gK:=YE.gK,own:=[95]}
def Od{A:qC}{d:D}{l:List Jm}{i:Nat}(ha:A=Std)(hd:d=bH fc l)(h:i<l.length):cD l[i].1 (A.asInt (A.cell d (br i) 0)) (A.bL (A.cell d (br i) 1)) (A.bL (A.cell d (br i) 2)) (A.cell d (br i) 3) (A.cell d (br i) 4)/\
 cD l[i].2 (A.asInt (A.cell d (br i) 5)) (A.bL (A.cell d (br i) 6)) (A.bL (A.cell d (br i) 7)) (A.cell d (br i) 8) (A.cell d (br i) 9):=by
 subst ha hd;rw[ix h,ix h,ix h,ix h,ix h,ix h,ix h,ix h,ix h,ix h];unfold fc;rw[dI,dI];exact⟨⟨rfl,rfl,rfl,rfl,rfl⟩,⟨rfl,rfl,rfl,rfl,rfl⟩⟩
open Classical in
def X0{l:List Jm}{d:D}(hd:d=bH fc l)(hl:l.length<=4294967295)(u:∀j∈l,Ty.le 4294967295 j.1/\Ty.le 4294967295 j.2){s t:Ty}{z:Int}{a1 a2:S}{a3 a4:D}{x:Int}{b1 b2:S}{w y:D}(hs:cD s z a1 a2 a3 a4)(E:cD t x b1 b2 w y){K:PV->List Ob->Prop}
 (h:∀b,b=decide ((s,t)∈l)->K (.bool b) []):
 FT 47 [] [.lst 97 d,df z a1 a2 a3 a4,df x b1 b2 w y] K:=by
 refine en YQ Tryz.func47 λA C L X=>?_;obtain⟨c,n,a⟩:=lenOf hd;cbv;refine lu X (λk=>k<=c/\(s,t)∉l.take k) (λk=>c-k) 0 ⟨bD _,yS⟩ (λ(k:Nat)=>[(7,.int .i64 k)]) ?_;rintro k ⟨hk,p⟩;cbv;constructor<;>intro h1
 ·have h5:k<l.length:=lY X.a a h1;obtain⟨B,F⟩:=Od X.a hd h5;have v:=iX X.a hd h5;have r:=jX X.a h5;obtain⟨l1,l2⟩:=u _ (bx h5)
  have m:((s,t):Jm)≠l[k]->(s,t)∉l.take (k+1):=λe f=>by
   rw[bX h5]at f;rcases bJ.1 f with f|f
   ·exact p f
   ·simp at f;exact e f
  clear h1;cbv;repeat' (first|apply bw|exact zf|(intro J;cbv)|apply bG|(refine X.call (TW _ l1 B hs λb hb=>?_);cbv)|(refine X.call (TW _ l2 F E λb2 o=>?_);cbv))
  all_goals try first|exact v|exact r
  ·have i:b=true:=yA;have g:b2=true:=yA;rw[hb]at i;rw[o]at g;refine h _ ?_;have:((s,t):Jm)∈l:=by have e:l[k]=(s,t):=dR (ir.1 i) (ir.1 g);rw[<- e];exact bx h5
   exact(decide_eq_true this).symm
  ·have g:b2=false:=yA;rw[o]at g;refine⟨k+1,⟨yO,m λe=>?_⟩,yO,?_⟩
   ·rw[<- e,jM]at g;cases g
   exact yc
  ·have i:b=false:=yA;rw[hb]at i;refine⟨k+1,⟨yO,m λe=>?_⟩,yO,?_⟩
   ·rw[<- e,jM]at i;cases i
   exact yc
 ·have h5:k=c:=gY X.a a h1;rw[h5,n,bF]at p;have q:=h false (decide_eq_false p).symm;cbv;exact q
end Go.VC.cK
namespace Go.VC
def n1.p1{s t:Ty}{b:Bool}{r:D}(hr:r= .list [])(hb:b=(s.k==1||t.k==0||(s.k==t.k&&(s.k==2||s.k==3||s.k==4))||(s.k==9&&t.k==9&&s.n==t.n))):n1 (yF s t) r b:=by
 unfold yF;subst hb;by_cases h:s.k=1\/t.k=0\/(s.k=t.k/\(s.k=2\/s.k=3\/s.k=4))\/(s.k=9/\t.k=9/\s.n=t.n)
 ·rw[if_pos h];refine⟨?_,λl e=>by cases e;rw[hr];rfl⟩;rw[Option.isSome_some,cm];simp only[gh,bI,beq_iff_eq,iff_true];rcases h with h|h|⟨h,c|c|c⟩|⟨h,c,f⟩
  ·exact .inl (.inl (.inl h))
  ·exact .inl (.inl (.inr h))
  ·exact .inl (.inr ⟨h,.inl (.inl c)⟩)
  ·exact .inl (.inr ⟨h,.inl (.inr c)⟩)
  ·exact .inl (.inr ⟨h,.inr c⟩)
  ·exact .inr ⟨⟨h,c⟩,f⟩
 ·rw[if_neg h];refine⟨?_,λl e=>yC e⟩;rw[ou,Bool.eq_false_iff];intro e;simp only[gh,bI,beq_iff_eq]at e;apply h;rcases e with((e|e)|⟨e,(a|a)|a⟩)|⟨⟨e,a⟩,d⟩
  ·exact .inl e
  ·exact .inr (.inl e)
  ·exact .inr (.inr (.inl ⟨e,.inl a⟩))
  ·exact .inr (.inr (.inl ⟨e,.inr (.inl a)⟩))
  ·exact .inr (.inr (.inl ⟨e,.inr (.inr a)⟩))
  ·exact .inr (.inr (.inr ⟨e,a,d⟩))
end Go.VC
namespace Go.VC.cK
open Go Go.VC Go.Proofs
def U6:eE:={tt:=tt,n:=69,gK:=YL.gK,own:=[10]}
def XW{env:List IF}{t:Ty}{d:D}{B:Int}{c1 c2:S}{w z:D}{K:PV->List Ob->Prop}(hd:d=bH dC env)(hl:dW env)(p:Ty.le 4294967295 t)(M:cD t B c1 c2 w z)
 (h:∀q e1 e2 e3 e4 g0 g1 g2 g3 g4 r,cD (dp env t).1 q e1 e2 e3 e4->cD (dp env t).2.1 g0 g1 g2 g3 g4->r=(dp env t).2.2->K (.tup [df q e1 e2 e3 e4,df g0 g1 g2 g3 g4,.int .i64 r]) []):
 FT 58 [] [.lst 51 d,df B c1 c2 w z] K:=by
 obtain⟨P,Q,I,f,T⟩:=M;have V:=pO p;have o:=pP p;have l:=Dy hl (m:=t.m) (n:=t.n);unfold dp at h;rw[<- P]at h;rw[<- Q,<-I]at h l;obtain⟨R,H⟩:∃R,R=dD env c1 c2:=⟨_,rfl⟩;rw[<- H]at h l;have ab:=l.np;refine en U6 Tryz.func58 λA C L X=>?_;obtain⟨F,v,b⟩:=lenOf f;refine p2 (λJ=>?_) (λJ=>?_)
 ·rw[if_pos (by obtain rfl:=X.a;simp only[SD]at J;exact J)]at h;exact h _ _ _ _ _ _ _ _ _ _ _ ⟨rfl,rfl,rfl,rfl,rfl⟩ ⟨rfl,rfl,rfl,rfl,rfl⟩ rfl
 rw[if_neg (by obtain rfl:=X.a;simp only[SD]at J;simp[J])]at h;clear J;refine X.call (TC hd hl λq e1 e2 e3 e4 e5 e6 e7 e8 e9 gD nZ r1 r2 G x g=>?_);rw[<- H]at G x g;rw[<- g]at h;obtain⟨a0,a1,s,u⟩:=G;obtain⟨c,e,a⟩:=lenOf a1;cbv;repeat' (first|apply bw|exact zf|(intro J;cbv)|apply bG)
 ·rename_i g0 g1;rw[if_neg (by obtain rfl:=X.a;simp only[SD]at g0;simp[g0]),if_pos (by obtain rfl:=X.a;simp only[b,a,SD]at g1;omega)]at h;exact h _ _ _ _ _ _ _ _ _ _ _ ⟨rfl,rfl,rfl,rfl,rfl⟩ ⟨rfl,rfl,rfl,rfl,rfl⟩ rfl
 ·exfalso;obtain rfl:=X.a;simp[fR,fh]at J
 ·exfalso;rename_i g0 g1;obtain rfl:=X.a;simp only[SD]at g0 J;omega
 rotate_left
 ·rename_i g0;rw[if_pos (by obtain rfl:=X.a;simp only[SD]at g0;omega)]at h;exact h _ _ _ _ _ _ _ _ _ _ _ ⟨rfl,rfl,rfl,rfl,rfl⟩ ⟨rfl,rfl,rfl,rfl,rfl⟩ rfl
 ·exfalso;rename_i g0;obtain rfl:=X.a;simp only[SD]at g0 J;omega
 rename_i g0 g1;have j:t.ar.length=R.1.params.length:=by obtain rfl:=X.a;simp only[b,a,SD]at g1;omega
 rw[if_neg (by obtain rfl:=X.a;simp only[SD]at g0;simp[g0]),if_neg (by simp[j])]at h;clear g0 g1 J;refine lP X (λy=>y.1<=c/\y.2=bH encS ((R.1.params.take y.1).map (·.name))) (λy=>c-y.1) (0,.list []) ⟨bD _,rfl⟩ [0,1,2,3,4] (λ(y:Nat×D)=>⟨[(47,.int .i64 y.1),(46,.int .i64 (A.len e1)),(45,.lst 56 e1),(10,.row 9 4),(3,.box 0 0),(4,.box 1 0),(5,.box 2 0),(7,.box 3 0)],[.box [.int .i64 B,.str c1,.str c2,.lst 29 w,.lst 42 z],.box [.undef,.undef,.undef,.undef,.undef],.box [.undef,.undef,.undef,.undef,.undef],.box [.str q,.lst 56 e1,.int .i64 e2,.str e3,.str e4,.lst 29 e5,.lst 42 e6,.int .i64 e7,.str e8,.str e9,.lst 29 gD,.lst 42 nZ],.row 9 y.2 true]⟩) ?_;rintro⟨i,r⟩ ⟨W,hr⟩;simp only at W hr;cbv;constructor<;>intro h1
 ·have h5:i<R.1.params.length:=lY X.a a h1;have E:=(Aj X.a a1 h5).1;have aa:=iX X.a a1 h5;have U:=jX X.a h5;have hb:A.fU (A.add (A.len r) (A.len (A.lit [[.str (A.bL (A.cell e1 (br i) 0))]]))) 4294967296:=by rw[X.a,hr];simp only[SD,bQ];omega
  have O:A.app r (A.lit [[.str (A.bL (A.cell e1 (br i) 0))]])=bH encS ((R.1.params.take (i+1)).map (·.name)):=by rw[E,X.a,hr,map_take h5];exact cx (k:=[R.1.params[i].name])
  refine p1 ?_;exact⟨(i+1,A.app r (A.lit [[.str (A.bL (A.cell e1 (br i) 0))]])),⟨yP,O⟩,yP,[0,1,2,3,4],rfl,yc⟩
 have h5:i=c:=gY X.a a h1;subst h5;rw[e,bF]at hr;refine p1 ?_;refine X.call (Uh hr f (by simpa using(by omega:R.1.params.length<4294967296)) yO o _ l.lo s λg0 g1 g2 g3 g4 N=>?_);refine p1 ?_;refine X.call (Uh hr f (by simpa using(by omega:R.1.params.length<4294967296)) yO o _ l.up u λk0 E k2 k3 k4 hk=>?_);refine p1 ?_;exact h _ _ _ _ _ _ _ _ _ _ _ N hk rfl
end Go.VC.cK
namespace Go.VC
def Bu{α:Type}{p:α->Bool}{l:List α}:(mg p l= -1/\l.find? p=none)\/∃(i:Nat) (h:i<l.length),mg p l=(i:Int)/\l.find? p=some l[i]:=by
 rcases tK p l with⟨h1,J⟩|⟨i,h,h1,J,h3⟩
 ·exact .inl ⟨h1,by rw[eV];intro x a;rw[J x a];decide⟩
 ·exact .inr ⟨i,h,h1,jG h J h3⟩
end Go.VC
namespace Go.VC.cK
open Go Go.VC Go.Proofs
section
variable {K:PV->List Ob->Prop}{f j c2 s:S}{c1:Int}{m g:D}
def XI:(∀{l:List Pm}{d:D}{p:Pm->Bool}{t:Int}{E B:S}{v u:D}{K:PV->List Ob->Prop}(hd:d=bH ew l)(hl:l.length<=4294967295)(w:∀ x∈l,∀ (f:S) (c1:Int) (c2:Int) (j:S) (g:S) (m:D) (o:D) (q:PV->List Ob->Prop),IV x f c1 c2 j g m o->(∀ b,b=p x->q (.bool b) [])->FT 57 [] [KM f c1 c2 j g m o,.cR [.int .i64 t,.str E,.str B,.lst 29 v,.lst 42 u] 0] q)(h:∀ r:Int,r=mg p l->K (.int .i64 r) []),FT 56 [] [.lst 56 d,.cy 57 [.cR [.int .i64 t,.str E,.str B,.lst 29 v,.lst 42 u] 0]] K)/\
 (∀{l:List Fe}{d:D}{p:Fe->Bool}{s:S}{K:PV->List Ob->Prop}(hd:d=bH fq l)(hl:l.length<=4294967295)(w:∀ x∈l,∀ (f:S) (c1:Int) (c2:S) (j:S) (g:D) (m:D) (o:Bool) (q:PV->List Ob->Prop),nX x f c1 c2 j g m o->(∀ b,b=p x->q (.bool b) [])->FT 110 [] [oK f c1 c2 j g m o,.cR [.str s] 0] q)(h:∀ r:Int,r=mg p l->K (.int .i64 r) []),FT 109 [] [.lst 42 d,.cy 110 [.cR [.str s] 0]] K):=by
 refine⟨?_,?_⟩;have z:=trivial
 rotate_left
 have M:=trivial
 rotate_left
 all_goals (
  first
   |(have y:=z;intro l d p t E B v u K hd hl w h)
   |(have y:=M;intro l d p s K hd hl w h)
  first
   |(have y:=z
     refine FC.enter (G:=cf 19) eX mixed ⟨Tryz.func56,by rfl,rfl⟩ rfl rfl rfl ?_)
   |(refine FC.enter (G:=Qz) eX mixed ⟨Tryz.func109,by rfl,rfl⟩ rfl rfl rfl ?_)
  intro A C L X;obtain⟨c,k,a⟩:=lenOf hd;cbv
  first
   |(have y:=z
     refine X.loop (λ(i:Nat)=>⟨[(8,.int .i64 i),(7,.int .i64 (A.len d)),(1,.cy 57 [.cR [.int .i64 t,.str E,.str B,.lst 29 v,.lst 42 u] 0]),(0,.lst 56 d)],[]⟩) (λi=>i<=c/\∀x∈l.take i,p x=false) (λi=>c-i) 0 ⟨bD _,yS⟩ ?_ ?_)
   |(refine X.loop (λ(i:Nat)=>⟨[(8,.int .i64 i),(7,.int .i64 (A.len d)),(1,.cy 110 [.cR [.str s] 0]),(0,.lst 42 d)],[]⟩) (λi=>i<=c/\∀x∈l.take i,p x=false) (λi=>c-i) 0 ⟨bD _,yS⟩ ?_ ?_)
  ·exact yc
  rintro i ⟨N,ha⟩;cbv;constructor<;>intro h1
  ·have h5:i<l.length:=lY X.a a h1
   first
    |(have y:=z
      have I:=kB X.a hd h5)
    |(have I:=kD X.a hd h5)
   have H:=iX X.a hd h5;have F:=jX X.a h5;cbv;repeat' (first|apply bw|exact zf|(intro J;cbv)|apply bG)
   any_goals exact H
   refine X.call (w _ (bx h5) _ _ _ _ _ _ _ _ I λb hb=>?_);have n:b=p l[i]:=hb;clear hb;cbv;repeat' (first|apply bw|exact zf|(intro J;cbv)|apply bG)
   any_goals exact F
   ·refine h i ?_;exact(kQ h5 ha (by rw[<- n];obtain rfl:=X.a;simpa only[SD]using J)).symm
   ·have hf:p l[i]=false:=by rename_i h3;rw[<- n];obtain rfl:=X.a;simpa only[SD,dq]using h3
    refine⟨i+1,⟨yO,?_⟩,yO,?_⟩
    ·rw[bX h5];intro x e;rcases bJ.1 e with e|e
     ·exact ha x e
     ·simp at e;subst e;exact hf
    exact yc
  ·have h5:i=c:=gY X.a a h1;subst h5;cbv;refine h (-1) ?_;rw[k,bF]at ha;exact(kR ha).symm)
def ZH{x:Pm}{c2:Int}{g:S}{c:D}(n:IV x f c1 c2 j g m c){d:Int}{i a:S}{l e:D}(h:∀b,b=(x.name==a)->K (.bool b) []):
 FT 57 [] [KM f c1 c2 j g m c,.cR [.int .i64 d,.str i,.str a,.lst 29 l,.lst 42 e] 0] K:=by
 obtain⟨k,_⟩:=n;refine en (cf 9) Tryz.func57 λA C L X=>?_;have q:=h (A.seq f a) (by rw[X.a,<-k];rfl);cbv;exact q
def Xv{x:Fe}{a:Bool}(c:nX x f c1 c2 j g m a)(h:∀b,b=(x.s==s)->K (.bool b) []):
 FT 110 [] [oK f c1 c2 j g m a,.cR [.str s] 0] K:=by
 obtain⟨k,_⟩:=c;refine en (cf 8) Tryz.func110 λA C L X=>?_;have q:=h (A.seq f s) (by rw[X.a,<-k];rfl);cbv;exact q
def XU{l:List Fe}{d:D}(hd:d=bH fq l)(hl:l.length<=4294967295){c:S}(hs:c=s)
 (h:∀u e1 e2 e3 e4 e5 e6 b,nX ((c8 l s).getD Fe.zero) u e1 e2 e3 e4 e5 e6->b=(c8 l s).isSome->K (.tup [oK u e1 e2 e3 e4 e5 e6,.bool b]) []):
 FT 70 [] [.lst 42 d,.str c] K:=by
 subst hs;refine en (cf 17) Tryz.func70 λA C L X=>?_;have e:∀a b:Int,A.le a b=decide (a<=b):=by rw[X.a];exactλ_ _=>rfl
 cbv;refine X.call (XI.2 (p:=λx=>x.s==c) hd hl (λx y f c1 c2 j g m w B k o=>Xv k o) λr hr=>?_);have hr:r=mg (λx:Fe=>x.s==c) l:=hr;rcases Bu (p:=λx:Fe=>x.s==c) (l:=l)with⟨e1,e2⟩|⟨i,v,e1,e2⟩
 ·have e2:c8 l c=none:=e2;have z:A.le 0 r=false:=by rw[e,hr,e1];rfl
  have q:=h [] 0 [] [] (.list []) (.list []) false false (by rw[e2];exact⟨rfl,⟨rfl,rfl,rfl,rfl,rfl⟩,rfl⟩) (by rw[e2];rfl);cbv;repeat' (first|apply bw|exact zf|(intro J;first|exact yB z J|cbv)|apply bG)
  exact q
 ·have e2:c8 l c=some l[i]:=e2;have t:r=br i:=by rw[hr,e1];rfl
  subst t;have z:A.le 0 (br i)=true:=by rw[e];simp only[bz];simp
  have n:=iX X.a hd v;have q:=h _ _ _ _ _ _ _ true (by rw[e2];exact kD X.a hd v) (by rw[e2];rfl);cbv;repeat' (first|apply bw|exact zf|(intro J;first|exact yB z J|cbv)|apply bG)
  all_goals first|exact n|exact q|skip
def Wa{env:List IF}{N:D}(R:N=bH dC env)(w:dW env){ctx:List Pm}{H:D}(hc:H=bH ew ctx)(B:ctx.length<=4294967295){t:Ty}(y:Ty.le 4294967295 t){f:Int}{c1:S}{j:D}(I:cD t f c1 c2 j g)
 (h:∀o e1 e2 e3 e4 b,(b=true->cD ((jf env ctx t).getD Ty.zero) o e1 e2 e3 e4)->b=(jf env ctx t).isSome->K (.tup [df o e1 e2 e3 e4,.bool b]) []):
 FT 33 [] [.lst 51 N,.lst 56 H,df f c1 c2 j g] K:=by
 have v:=I;obtain⟨P,V,O,U,Q⟩:=v;unfold jf at h;rw[<- P,<-O]at h;refine en (cf 40) Tryz.func33 λA C L X=>?_;have Z:=mI X.a;have c:=Dh X.a;by_cases a:f=10
 ·have gD:A.eq f 10=true:=by rw[Z,a];rfl
  have e9:A.eq f 9=false:=by rw[Z,a];rfl
  rw[if_pos a]at h;cbv;repeat' (first|apply bw|exact zf|(intro J;first|exact yB e9 J|exact yB gD J|cbv)|apply bG|(refine X.call (XW R w y I λo e1 e2 e3 e4 g0 g1 g2 g3 g4 r T u hr=>?_);cbv))
  refine h _ _ _ _ _ _ (λhb=>?_) ?_
  ·have hb:A.eq r 0=true:=hb;rw[Z,hr]at hb;rw[if_pos (yU hb)];exact u
  ·show A.eq r 0=_;rw[Z,hr];by_cases e:(dp env t).2.2=0
   ·rw[if_pos e,e];rfl
   ·rw[if_neg e];simpa using e
 have gD:A.eq f 10=false:=by rw[Z];simpa using a
 rw[if_neg a]at h;by_cases k:f=9
 ·have e9:A.eq f 9=true:=by rw[Z,k];rfl
  rw[if_pos k]at h;cbv;repeat' (first|apply bw|exact zf|(intro J;first|exact yB e9 J|cbv)|apply bG|(refine X.call (XI.1 (p:=λx=>x.name==c2) hc B (λx W a0 a1 a2 a3 a4 a5 a6 K' n F=>ZH n F) λr hr=>?_);cbv))
  all_goals (have hr:r=mg (λx:Pm=>x.name==c2) ctx:=hr)
  all_goals (
   rcases Bu (p:=λx:Pm=>x.name==c2) (l:=ctx)with⟨f1,f2⟩|⟨i,M,f1,f2⟩
   ·have z:A.lt r 0=true:=by rw[c,hr,f1];rfl
    have q:=h 0 [] [] (.list []) (.list []) false (λe=>yC e) (by rw[f2];rfl)
    first
     |exact q
     |(exfalso;have d:A.lt r 0=false:=yA
       rw[z]at d;cases d;done)
   ·have G:r=br i:=by rw[hr,f1];rfl
    subst G;have z:A.lt (br i) 0=false:=by rw[c];simp only[bz];simp
    have E:=iX X.a hc M;have q:=h _ _ _ _ _ true (λ_=>by rw[f2];exact(kB X.a hc M).2.2) (by rw[f2];rfl)
    first
     |exact E
     |exact q
     |(exfalso;have d:A.lt (br i) 0=true:=yA
       rw[z]at d;cases d;done))
 ·have e9:A.eq f 9=false:=by rw[Z];simpa using k
  rw[if_neg k]at h;have q:=h 0 [] [] (.list []) (.list []) false (λe=>yC e) rfl;cbv;repeat' (first|apply bw|exact zf|(intro J;first|exact yB e9 J|exact yB gD J|cbv)|apply bG)
  exact q
end
section
variable {m a2 a3 i b2 c:S}{a1 b1:Int}{a4 a5 d a:D}{j f:Bool}{K:PV->List Ob->Prop}
def ZD(h:K (Ji b1 b2 c d a a1 a2 a3 a4 a5) []):
 FT 68 [] [oK m a1 a2 a3 a4 a5 j,oK i b1 b2 c d a f] K:=by
 refine en (cf 10) Tryz.func68 λA C L X=>?_;cbv;exact h
def ZC(h:K (Ji a1 a2 a3 a4 a5 b1 b2 c d a) []):
 FT 69 [] [oK m a1 a2 a3 a4 a5 j,oK i b1 b2 c d a f] K:=by
 refine en (cf 10) Tryz.func69 λA C L X=>?_;cbv;exact h
def ZB(h:K (Ji a1 a2 a3 a4 a5 b1 b2 c d a) []):
 FT 71 [] [oK m a1 a2 a3 a4 a5 j,oK i b1 b2 c d a f] K:=by
 refine en (cf 10) Tryz.func71 λA C L X=>?_;cbv;exact h
def U4:eE:={tt:=tt,n:=46,own:=[6,8]}
def UI:(∀{need n:List Fe}{h w:D}(M:h=bH fq need)(Q:w=bH fq n)(H:need.length<=1048576)(B:n.length<=4294967295){K:PV->List Ob->Prop}(u:eY true n need=none->K (.tup [.row 67 0,.bool false]) [.row 67 (.list []) true])(t:∀ l r,eY true n need=some l->l.length<=need.length->r=bH fc l->K (.tup [.row 67 0,.bool true]) [.row 67 r true]),FT 67 [] [.lst 42 h,.lst 42 w,.cy 68 []] K)/\
 (∀{need n:List Fe}{h w:D}(M:h=bH fq need)(Q:w=bH fq n)(H:need.length<=1048576)(B:n.length<=4294967295){K:PV->List Ob->Prop}(u:eY false n need=none->K (.tup [.row 67 0,.bool false]) [.row 67 (.list []) true])(t:∀ l r,eY false n need=some l->l.length<=need.length->r=bH fc l->K (.tup [.row 67 0,.bool true]) [.row 67 r true]),FT 67 [] [.lst 42 h,.lst 42 w,.cy 69 []] K)/\
 (∀{need n:List Fe}{h w:D}(M:h=bH fq need)(Q:w=bH fq n)(H:need.length<=1048576)(B:n.length<=4294967295){K:PV->List Ob->Prop}(u:eY false n need=none->K (.tup [.row 67 0,.bool false]) [.row 67 (.list []) true])(t:∀ l r,eY false n need=some l->l.length<=need.length->r=bH fc l->K (.tup [.row 67 0,.bool true]) [.row 67 r true]),FT 67 [] [.lst 42 h,.lst 42 w,.cy 71 []] K):=by
 refine⟨?_,?_,?_⟩;have V:=trivial
 rotate_left
 have zB:=trivial
 rotate_left
 have zC:=trivial
 rotate_left
 all_goals (
  intro need n h w M Q H B K u t;refine eo U4 Tryz.func67 λA C L X=>?_;have Y:=fz X.a;obtain⟨o,G,s⟩:=lenOf M;cbv
  first
   |(have O:=V
     refine X.iC (λ(y:Nat×List Jm×D)=>⟨[(15,.int .i64 y.1),(14,.int .i64 (A.len h)),(13,.lst 42 h),(8,.row 67 0),(2,.cy 68 []),(1,.lst 42 w),(0,.lst 42 h)],[.row 67 y.2.2 true]⟩)
      (λy=>y.1<=o/\eY true n need=(eY true n (need.drop y.1)).map (y.2.1++ ·)/\y.2.1.length<=y.1/\y.2.2=bH fc y.2.1) (λy=>o-y.1) (0,[],.list []) ⟨bD _,yS,ca _,rfl⟩ ?_ ?_)
   |(have O:=zB
     refine X.iC (λ(y:Nat×List Jm×D)=>⟨[(15,.int .i64 y.1),(14,.int .i64 (A.len h)),(13,.lst 42 h),(8,.row 67 0),(2,.cy 69 []),(1,.lst 42 w),(0,.lst 42 h)],[.row 67 y.2.2 true]⟩)
      (λy=>y.1<=o/\eY false n need=(eY false n (need.drop y.1)).map (y.2.1++ ·)/\y.2.1.length<=y.1/\y.2.2=bH fc y.2.1) (λy=>o-y.1) (0,[],.list []) ⟨bD _,yS,ca _,rfl⟩ ?_ ?_)
   |(refine X.iC (λ(y:Nat×List Jm×D)=>⟨[(15,.int .i64 y.1),(14,.int .i64 (A.len h)),(13,.lst 42 h),(8,.row 67 0),(2,.cy 71 []),(1,.lst 42 w),(0,.lst 42 h)],[.row 67 y.2.2 true]⟩)
      (λy=>y.1<=o/\eY false n need=(eY false n (need.drop y.1)).map (y.2.1++ ·)/\y.2.1.length<=y.1/\y.2.2=bH fc y.2.1) (λy=>o-y.1) (0,[],.list []) ⟨bD _,yS,ca _,rfl⟩ ?_ ?_)
  ·skip
   exact⟨[1],rfl,yc⟩
  rintro⟨k,v,r⟩ ⟨hk,x,W,hr⟩;simp only at hk x W hr;cbv;constructor<;>intro h1
  ·have h5:k<need.length:=lY X.a s h1;have R:=kD X.a M h5;have k0:=R.1;have kb:=R.2.2;have kt:=R.2.1;have aa:=iX X.a M h5;have N:=jX X.a h5;rw[bM h5]at x;have hB:∀row:List D,A.fU (A.add (A.len r) (A.len (A.lit [row]))) 4294967296:=λrow=>by rw[X.a,hr];simp only[SD];omega
   clear h1;cbv;repeat' (first|apply bw|exact zf|(intro J;cbv)|apply bG|(refine X.call (XU Q B k0 λg0 g1 g2 g3 g4 g5 g6 b hg hb=>?_);cbv))
   all_goals try first|exact aa|exact N
   all_goals (
    have I:A.not b=false->∃g,c8 n need[k].s=some g/\nX g g0 g1 g2 g3 g4 g5 g6:=λe=>by
     rw[Y,hb]at e;cases hf:c8 n need[k].s with
     |none=>rw[hf]at e;simp at e
     |some g=>rw[hf]at hg;exact⟨g,rfl,hg⟩
    have U:A.not b=true->c8 n need[k].s=none:=λe=>by
     rw[Y,hb]at e;cases hf:c8 n need[k].s with
     |none=>rfl
     |some g=>rw[hf]at e;simp at e)
   all_goals first
    |(have z:A.not b=true:=yA
      exact u (by rw[x,D6 (U z)];rfl))
    |(have z:A.not b=false:=yA
      have F:A.not (A.asBool (A.cell h (br k) 6))=false:=yA;have E:A.not g6=true:=yA;obtain⟨g,hf,p⟩:=I z;rw[Y,kb]at F;rw[Y,p.2.2]at E;exact u (by rw[x,wg hf (by simp at F E;rw[F,E];rfl)];rfl))
    |(have z:A.not b=false:=yA
      have F:A.asBool (A.cell h (br k) 6)=true:=yA;have E:A.not g6=true:=yA;obtain⟨g,hf,p⟩:=I z;rw[kb]at F;rw[Y,p.2.2]at E;exact u (by rw[x,wg hf (by rw[F,E];rfl)];rfl))
    |(have z:A.not b=false:=yA
      obtain⟨g,hf,p⟩:=I z
      have T:(need[k].b&& !g.b)=false:=by
       first
        |(have E:A.not g6=false:=yA
          rw[Y,p.2.2]at E;rw[E,fb])
        |(have F:A.asBool (A.cell h (br k) 6)=false:=yA
          rw[kb]at F;rw[F,fH])
      first
       |(have O:=V
         refine X.call (ZD ?_);have P:A.app r (A.lit [[.int g1,.str g2,.str g3,g4,g5,.int (A.asInt (A.cell h (br k) 1)),.str (A.bL (A.cell h (br k) 2)),.str (A.bL (A.cell h (br k) 3)),A.cell h (br k) 4,A.cell h (br k) 5]])=bH fc (v++[(g.t,need[k].t)]):=by rw[mb p.2.1 kt,X.a,hr];exact cx (k:=[(g.t,need[k].t)]))
       |(have O:=zB
         refine X.call (ZC ?_);have P:A.app r (A.lit [[.int (A.asInt (A.cell h (br k) 1)),.str (A.bL (A.cell h (br k) 2)),.str (A.bL (A.cell h (br k) 3)),A.cell h (br k) 4,A.cell h (br k) 5,.int g1,.str g2,.str g3,g4,g5]])=bH fc (v++[(need[k].t,g.t)]):=by rw[mb kt p.2.1,X.a,hr];exact cx (k:=[(need[k].t,g.t)]))
       |(refine X.call (ZB ?_)
         have P:A.app r (A.lit [[.int (A.asInt (A.cell h (br k) 1)),.str (A.bL (A.cell h (br k) 2)),.str (A.bL (A.cell h (br k) 3)),A.cell h (br k) 4,A.cell h (br k) 5,.int g1,.str g2,.str g3,g4,g5]])=bH fc (v++[(need[k].t,g.t)]):=by rw[mb kt p.2.1,X.a,hr];exact cx (k:=[(need[k].t,g.t)]))
      rw[D7 hf T]at x;simp only[cC,if_false,if_true]at x;rw[uW]at x;cbv;repeat' (first|apply bw|exact zf|(intro J;cbv)|apply bG)
      all_goals try first|exact N|exact hB _
      first
       |(have O:=V
         refine⟨(k+1,v++[(g.t,need[k].t)],_),⟨?_,x,?_,P⟩,?_,[0],rfl,?_⟩)
       |(refine⟨(k+1,v++[(need[k].t,g.t)],_),⟨?_,x,?_,P⟩,?_,[0],rfl,?_⟩)
      ·simp only;omega
      ·simp only[bE,bS,cH];omega
      ·simp only;omega
      exact yc)
    |skip
  ·have h5:k=o:=gY X.a s h1;rw[h5,G,bZ,eY,cu,cA]at x;have q:=t v r x yO hr;cbv;exact q)
end
end Go.VC.cK
namespace Go.VC
abbrev qO(b a c d:D)(wr:Bool):List Ob:=[.box [.lst 51 b,.lst 56 a,.mp 1,.row 9 2],.map .str 4 c,.row 9 d wr]
abbrev Yg(b a c d:D)(wr:Bool):List Ob:=[.box [.lst 51 b,.lst 56 a,.mp 1,.row 9 3],.map .str 4 c,.dead,.row 9 d wr]
abbrev qR(b a c d:D)(wr:Bool)(r:D):List Ob:=[.box [.lst 51 b,.lst 56 a,.mp 1,.row 9 4],.map .str 4 c,.dead,.row 67 r true,.row 9 d wr]
end Go.VC
namespace Go.VC.cK
open Go Go.VC Go.Proofs
def Vf:eE:={tt:=tt,n:=59,n0:=3,own:=[6]}
def ZR{o g q k:D}{wr:Bool}{s t:Ty}{d:Int}{a1 a2:S}{a3 a4:D}{c:Int}{b1 b2:S}{x E:D}(hs:cD s d a1 a2 a3 a4)(w:cD t c b1 b2 x E)
 {K:PV->List Ob->Prop} (h:∀r b,n1 (yF s t) r b->K (.tup [.row 67 3,.bool b]) (qR o g q k wr r)):
 FT 40 (qO o g q k wr) [.box 0 0,df d a1 a2 a3 a4,df c b1 b2 x E] K:=by
 obtain⟨i,H,y,f,j⟩:=id hs;obtain⟨l,G,u,p,m⟩:=id w;refine el Vf Tryz.func40 λA C L X=>?_;have Y:=fz X.a;have Z:=mI X.a;have a:=Dg X.a;have key:∀b,b=(s.k==1||t.k==0||(s.k==t.k&&(s.k==2||s.k==3||s.k==4))||(s.k==9&&t.k==9&&s.n==t.n))->K (.tup [.row 67 3,.bool b]) (qR o g q k wr (.list [])):=λb e=>h _ _ (n1.p1 rfl e);have v:A.eq d c=(s.k==t.k):=by rw[Z,i,l]
 have z:∀n,A.eq d n=(s.k==n):=λn=>by rw[Z,i]
 have F:∀n,A.eq c n=(t.k==n):=λn=>by rw[Z,l]
 have B:A.seq a2 b2=(s.n==t.n):=by rw[a,y,u]
 clear h;cbv;repeat' (first|apply bw|exact zf|(intro J;cbv)|apply bG)
 all_goals (refine key _ ?_;clear key X Y Z a f j p m hs w;simp only[dq,v,z,F,B]at *;clear v z F B i H y l G u;simp_all;done)
def Vd:eE:={tt:=tt,n:=149,n0:=3,gK:=YR.gK,own:=[6,17],qk:=[5],xz:=[64,65,66]}
def XJ:(∀{env:List IF}{F:D}(R:F=bH dC env)(i:dW env){s t:Ty}(ai:Ty.le 4294967295 s)(da:Ty.le 4294967295 t)(fL:s.ar.length<=1048576){E:Int}{a1 a2:S}{a3 a4:D}{B:Int}{b1 b2:S}{g N:D}(hs:cD s E a1 a2 a3 a4)(ht:cD t B b1 b2 g N){K:PV->List Ob->Prop}(h:∀ r b,n1 (rq env s t) r b->K (.tup [.lst 97 r,.bool b]) []),FT 76 [] [.lst 51 F,df E a1 a2 a3 a4,df B b1 b2 g N] K)/\
 (∀{env:List IF}{F:D}(R:F=bH dC env)(i:dW env){dc dm dt:D}{wr:Bool}{s t:Ty}(ai:Ty.le 4294967295 s)(da:Ty.le 4294967295 t)(fL:s.ar.length<=1048576){E:Int}{a1 a2:S}{a3 a4:D}{B:Int}{b1 b2:S}{g N:D}(hs:cD s E a1 a2 a3 a4)(ht:cD t B b1 b2 g N){K:PV->List Ob->Prop}(h:∀ r b,n1 (rq env s t) r b->K (.tup [.row 67 3,.bool b]) (qR F dc dm dt wr r)),FT 42 (qO F dc dm dt wr) [.box 0 0,df E a1 a2 a3 a4,df B b1 b2 g N] K):=by
 refine⟨?_,?_⟩;have j:=trivial
 rotate_left
 have zB:=trivial
 rotate_left
 all_goals (
  first
   |(have o:=j;intro env F R i s t ai da fL E a1 a2 a3 a4 B b1 b2 g N hs ht K h)
   |(have o:=zB;intro env F R i dc dm dt wr s t ai da fL E a1 a2 a3 a4 B b1 b2 g N hs ht K h)
  first
   |(have o:=j
     skip)
   |(have hn:rq env s t=none->K (.tup [.row 67 3,.bool false]) (qR F dc dm dt wr (.list [])):=λe=>h _ _ (n1.no e))
  obtain⟨s0,s1,s2,ac,bn⟩:=id hs;obtain⟨t0,t1,t2,ah,bp⟩:=id ht
  first
   |(have o:=j
     have ao:rq env s t=none->K (.tup [.lst 97 (.list []),.bool false]) []:=λe=>h _ _ (n1.no e);refine FC.enter (G:=U1) eX mixed ⟨Tryz.func76,by rfl,rfl⟩ rfl rfl rfl ?_)
   |(refine FC.sC (G:=Vd) eX mixed ⟨Tryz.func42,by rfl,rfl⟩ rfl rfl rfl ?_)
  intro A C L X;have Y:=fz X.a;have Z:=mI X.a;have ap:=Dg X.a;by_cases hk:s.k≠10\/t.k≠10
  ·skip
   first
    |(have o:=j
      have q:=ao (by unfold rq;rw[if_pos hk]))
    |(have q:=hn (by unfold rq;rw[if_pos hk])
      have ed:A.not (A.eq E 10)=true\/A.not (A.eq B 10)=true:=by
       rcases hk with hk|hk
       ·exact .inl (by rw[Y,Z,s0];simpa using hk)
       ·exact .inr (by rw[Y,Z,t0];simpa using hk)
      clear hn h)
   cbv
   first
    |(have o:=j
      repeat' (first|apply bw|exact zf|(intro J;cbv)|apply bG)
      all_goals first
       |exact q
       |(exfalso
         have m:A.not (A.eq E 10)=false:=yA;have p:A.not (A.eq B 10)=false:=yA;rw[Y,Z,s0]at m;rw[Y,Z,t0]at p;rcases hk with hk|hk
         ·exact hk (yU m)
         ·exact hk (yU p))
       |skip)
    |(repeat' (first|apply bw|exact zf|(intro J;first|(exfalso;rcases ed with ed|ed<;>first|exact absurd (ed.symm.trans (show A.not (A.eq E 10)=false by assumption)) yD|exact absurd (ed.symm.trans (show A.not (A.eq B 10)=false by assumption)) yD)|cbv)|apply bG|exact q))
  have aY:s.k=10:=by
   rcases O6 (s.k=10)with e|e
   ·exact e
   ·exact absurd (.inl e) hk
  have aS:t.k=10:=by
   rcases O6 (t.k=10)with e|e
   ·exact e
   ·exact absurd (.inr e) hk
  have es:A.not (A.eq E 10)=false:=by rw[Y,Z,s0,aY];rfl
  have et:A.not (A.eq B 10)=false:=by rw[Y,Z,t0,aS];rfl
  cbv
  first
   |(have o:=j
     repeat' (first|apply bw|exact zf|(intro J;first|exact yB es J|exact yB et J|cbv)|apply bG|(refine X.call (TB (n:=a2) R i λr0 M r2 hr=>?_);cbv))
     refine X.call (TB (n:=b2) R i λU V T u=>?_))
   |(repeat' (first|apply bw|exact zf|(intro J;first|exact yB es J|exact yB et J|cbv)|apply bG|(refine X.call (V8 (n:=a2) R i λr0 M r2 hr=>?_);cbv))
     refine X.call (V8 (n:=b2) R i λU V T u=>?_))
  cbv
  first
   |(have o:=j
     refine X.call (TF R i λw0 c w2 w3 w4 w5 w6 w7 w8 w9 I H x1 P hx aA x=>?_))
   |(refine X.cut (λ(z:(S×D×Int×S×S×D×D×Int×S×S×D×D)×S×Int)=>⟨[(16,.int .i64 z.2.2),(15,.str z.2.1),(14,.box 6 0),(13,.int .i64 T),(12,.str V),(11,.str U),(10,.int .i64 r2),(9,.str M),(8,.str r0),(5,.box 5 0),(4,.box 4 0)],[.box [.lst 51 F,.lst 56 dc,.mp 1,.row 9 3],.map .str 4 dm,.dead,.row 9 dt wr,.box [.int .i64 E,.str a1,.str a2,.lst 29 a3,.lst 42 a4],.box [.int .i64 B,.str b1,.str b2,.lst 29 g,.lst 42 N],.box [.str z.1.1,.lst 56 z.1.2.1,.int .i64 z.1.2.2.1,.str z.1.2.2.2.1,.str z.1.2.2.2.2.1,.lst 29 z.1.2.2.2.2.2.1,.lst 42 z.1.2.2.2.2.2.2.1,.int .i64 z.1.2.2.2.2.2.2.2.1,.str z.1.2.2.2.2.2.2.2.2.1,.str z.1.2.2.2.2.2.2.2.2.2.1,.lst 29 z.1.2.2.2.2.2.2.2.2.2.2.1,.lst 42 z.1.2.2.2.2.2.2.2.2.2.2.2]]⟩)
      (λz=>oA (dD env a1 a2).1 z.1.1 z.1.2.1 z.1.2.2.1 z.1.2.2.2.1 z.1.2.2.2.2.1 z.1.2.2.2.2.2.1 z.1.2.2.2.2.2.2.1 z.1.2.2.2.2.2.2.2.1 z.1.2.2.2.2.2.2.2.2.1 z.1.2.2.2.2.2.2.2.2.2.1 z.1.2.2.2.2.2.2.2.2.2.2.1 z.1.2.2.2.2.2.2.2.2.2.2.2/\z.2.2=(dD env a1 a2).2.2) ?_ ?_
     ·cbv;repeat' (first|apply bw|exact zf|(intro J;cbv)|apply bG|(refine X.call (TC R i λw0 c w2 w3 w4 w5 w6 w7 w8 w9 I H x1 P hx aA x=>?_);cbv))
      all_goals (
       exact⟨((w0,c,w2,w3,w4,w5,w6,w7,w8,w9,I,H),x1,P),⟨hx,x⟩,[0,1,2,3,4,5,7],rfl,yc⟩)
     rintro⟨⟨w0,c,w2,w3,w4,w5,w6,w7,w8,w9,I,H⟩,x1,P⟩ ⟨hx,x⟩;simp only at hx x)
  obtain⟨ps,Q⟩:∃ps,ps=(dD env a1 a2).1.params:=⟨_,rfl⟩;have O:c=bH ew ps:=by rw[Q];exact hx.2.1
  first
   |(have o:=j
     have ad:(r0,M,r2)=fZ env s.m s.n:=by rw[<- s1,<-s2];exact hr
     have ag:(U,V,T)=fZ env t.m t.n:=by rw[<- t1,<-t2];exact u)
   |(have ad:(r0,M,r2)=fZ env s.m s.n:=by rw[<- s1,<-s2];unfold fZ;exact hr
     have ag:(U,V,T)=fZ env t.m t.n:=by rw[<- t1,<-t2];unfold fZ;exact u)
  have aa:P=(dD env s.m s.n).2.2:=by rw[<- s1,<-s2];exact x
  have W:ps=(dD env s.m s.n).1.params:=by rw[<- s1,<-s2];exact Q
  have hp:=KK hk ad ag aa W;clear ad ag aa W
  first
   |(have o:=j
     clear hr u hx aA x Q)
   |(clear hr u hx x Q)
  have ls:A.len a3=br s.ar.length:=gr X.a ac;have lt:A.len g=br t.ar.length:=gr X.a ah;have lw:A.len c=br ps.length:=gr X.a O;have c1:A.not (A.eq r2 0)=decide (r2≠0):=by rw[Y,Z,cm];simp
  have c2:A.not (A.eq T 0)=decide (T≠0):=by rw[Y,Z,cm];simp
  have c3:A.not (A.eq P 0)=decide (P≠0):=by rw[Y,Z,cm];simp
  have c4:A.not (A.seq r0 U)=decide (r0≠U):=by rw[Y,ap,cm];simp
  have c5:A.not (A.seq M V)=decide (M≠V):=by rw[Y,ap,cm];simp
  first
   |(have o:=j
     have c6:A.not (A.eq (A.len a3) (A.len c))=decide (s.ar.length≠ps.length):=by rw[Y,Z,ls,lw,cm];simp;omega
     have c7:A.not (A.eq (A.len g) (A.len c))=decide (t.ar.length≠ps.length):=by rw[Y,Z,lt,lw,cm];simp;omega)
   |(have c6:A.not (A.eq (A.len c) (A.len a3))=decide (s.ar.length≠ps.length):=by rw[Y,Z,ls,lw,cm];simp;omega
     have c7:A.not (A.eq (A.len a3) (A.len g))=decide (t.ar.length≠s.ar.length):=by rw[Y,Z,ls,lt,cm];simp;omega)
  by_cases a:r2≠0\/T≠0\/P≠0\/r0≠U\/M≠V\/s.ar.length≠ps.length\/t.ar.length≠ps.length
  ·skip
   first
    |(have o:=j
      have q:=ao (by rw[hp,if_pos a]))
    |(have q:=hn (by rw[hp,if_pos a]))
   cbv;repeat' (first|apply bw|exact zf|(intro J;cbv)|apply bG)
   all_goals first
    |exact q
    |(exfalso;simp only[dq,c1,c2,c3,c4,c5,c6,c7,decide_eq_false_iff_not]at *;simp_all;done)
    |(exfalso
      have m:A.not (A.eq r2 0)=false:=yA;have p:A.not (A.eq T 0)=false:=yA;have z3:A.not (A.eq P 0)=false:=yA;have z4:A.not (A.seq r0 U)=false:=yA;have z5:A.not (A.seq M V)=false:=yA;have z6:A.not (A.eq (A.len c) (A.len a3))=false:=yA;have z7:A.not (A.eq (A.len a3) (A.len g))=false:=yA;have m:=of_decide_eq_false (c1.symm.trans m);have p:=of_decide_eq_false (c2.symm.trans p);have z3:=of_decide_eq_false (c3.symm.trans z3);have z4:=of_decide_eq_false (c4.symm.trans z4);have z5:=of_decide_eq_false (c5.symm.trans z5);have z6:=of_decide_eq_false (c6.symm.trans z6);have z7:=of_decide_eq_false (c7.symm.trans z7);rcases a with e|e|e|e|e|e|e
      ·exact m e
      ·exact p e
      ·exact z3 e
      ·exact z4 e
      ·exact z5 e
      ·exact z6 e
      ·omega)
    |skip
  rw[if_neg a]at hp;have a:(¬ r2≠0)/\(¬ T≠0)/\(¬ P≠0)/\(¬ r0≠U)/\(¬ M≠V)/\(¬ s.ar.length≠ps.length)/\(¬ t.ar.length≠ps.length):=by refine⟨λe=>a ?_,λe=>a ?_,λe=>a ?_,λe=>a ?_,λe=>a ?_,λe=>a ?_,λe=>a ?_⟩<;>simp[e]
  obtain⟨d1,d2,d3,d4,d5,d6,d7⟩:=a;have c1:=c1.trans (decide_eq_false d1);have c2:=c2.trans (decide_eq_false d2);have c3:=c3.trans (decide_eq_false d3);have c4:=c4.trans (decide_eq_false d4);have c5:=c5.trans (decide_eq_false d5);have c6:=c6.trans (decide_eq_false d6)
  first
   |(have o:=j
     have c7:=c7.trans (decide_eq_false d7))
   |(have c7:=c7.trans (decide_eq_false yO))
  have bq:s.ar.length=ps.length:=yO;have bl:t.ar.length=ps.length:=yO;clear d1 d2 d3 d4 d5 d6 d7;cbv;repeat' (first|apply bw|exact zf|(intro J;first|exact yB c1 J|exact yB c2 J|exact yB c3 J|exact yB c4 J|exact yB c5 J|exact yB c6 J|exact yB c7 J|cbv)|apply bG)
  obtain⟨v,af,w⟩:=lenOf O
  first
   |(have o:=j
     refine X.iC (λ(y:Nat×List Jm×D)=>⟨[(18,.int .i64 y.1),(17,.row 97 3),(14,.box 2 0),(5,.box 1 0),(4,.box 0 0)],[.box [.int .i64 E,.str a1,.str a2,.lst 29 a3,.lst 42 a4],.box [.int .i64 B,.str b1,.str b2,.lst 29 g,.lst 42 N],.box [.str w0,.lst 56 c,.int .i64 w2,.str w3,.str w4,.lst 29 w5,.lst 42 w6,.int .i64 w7,.str w8,.str w9,.lst 29 I,.lst 42 H],.row 97 y.2.2 true]⟩)
      (λy=>y.1<=v/\oN ps s.ar t.ar=y.2.1++oN (ps.drop y.1) (s.ar.drop y.1) (t.ar.drop y.1)/\y.2.1.length<=2*y.1/\y.2.2=bH fc y.2.1) (λy=>v-y.1) (0,[],A.lit []) ⟨bD _,rfl,ca _,yX⟩ ?_ ?_)
   |(refine X.iC (λ(y:Nat×List Jm×D)=>⟨[(108,.int .i64 y.1),(107,.int .i64 (A.len c)),(106,.lst 56 c),(17,.row 67 7),(14,.box 6 0),(5,.box 5 0),(4,.box 4 0)],[.box [.lst 51 F,.lst 56 dc,.mp 1,.row 9 3],.map .str 4 dm,.dead,.row 9 dt wr,.box [.int .i64 E,.str a1,.str a2,.lst 29 a3,.lst 42 a4],.box [.int .i64 B,.str b1,.str b2,.lst 29 g,.lst 42 N],.box [.str w0,.lst 56 c,.int .i64 w2,.str w3,.str w4,.lst 29 w5,.lst 42 w6,.int .i64 w7,.str w8,.str w9,.lst 29 I,.lst 42 H],.row 67 y.2.2 true]⟩)
      (λy=>y.1<=v/\oN ps s.ar t.ar=y.2.1++oN (ps.drop y.1) (s.ar.drop y.1) (t.ar.drop y.1)/\y.2.1.length<=2*y.1/\y.2.2=bH fc y.2.1) (λy=>v-y.1) (0,[],.list []) ⟨bD _,rfl,ca _,rfl⟩ ?_ ?_)
  ·skip
   first
    |(have o:=j
      refine⟨[0,1,2,3],rfl,?_⟩)
    |(refine⟨[0,1,2,3,4,5,6,7],rfl,?_⟩)
   exact yc
  rintro⟨k,f,r⟩ ⟨aO,u,aN,hr⟩;simp only at aO u aN hr;cbv;constructor<;>intro h1
  ·have h5:k<ps.length:=lY X.a w h1;have h6:k<s.ar.length:=yO;have h7:k<t.ar.length:=yO;have k1:=(Aj X.a O h5).2;have y1:=gI X.a ac h6;have y2:=gI X.a ah h7;have aW:=iX X.a O h5;have aL:=iX X.a ac h6;have a6:=iX X.a ah h7;have aZ:=jX X.a h5;have f1:A.not (A.eq (A.asInt (A.cell c (br k) 1)) 1)=decide (ps[k].var≠1):=by rw[Y,Z,k1,cm];simp
   have f2:A.not (A.eq (A.asInt (A.cell c (br k) 1)) 0)=decide (ps[k].var≠0):=by rw[Y,Z,k1,cm];simp
   have hB:∀row:List D,A.fU (A.add (A.len r) (A.len (A.lit [row]))) 4294967296:=λrow=>by rw[X.a,hr];simp only[SD];omega
   have M:=mb y1 y2;have r2:=mb y2 y1;have p1:∀(d:D)(l:List Jm),d=bH fc l->A.app d (A.lit [fc (s.ar[k],t.ar[k])])=bH fc (l++[(s.ar[k],t.ar[k])]):=λd l e=>by rw[X.a,e];exact cx (k:=[(s.ar[k],t.ar[k])])
   have p2:∀(d:D)(l:List Jm),d=bH fc l->A.app d (A.lit [fc (t.ar[k],s.ar[k])])=bH fc (l++[(t.ar[k],s.ar[k])]):=λd l e=>by rw[X.a,e];exact cx (k:=[(t.ar[k],s.ar[k])])
   rw[<- M]at p1;rw[<- r2]at p2;have aT:∀(row:List D),A.fU (A.add (A.len (A.app r (A.lit [[.int (A.asInt (A.cell a3 (br k) 0)),.str (A.bL (A.cell a3 (br k) 1)),.str (A.bL (A.cell a3 (br k) 2)),A.cell a3 (br k) 3,A.cell a3 (br k) 4,.int (A.asInt (A.cell g (br k) 0)),.str (A.bL (A.cell g (br k) 1)),.str (A.bL (A.cell g (br k) 2)),A.cell g (br k) 3,A.cell g (br k) 4]]))) (A.len (A.lit [row]))) 4294967296:=λrow=>by rw[p1 r f hr,X.a];simp only[SD];omega
   rw[OF h5 h6 h7,<-bN]at u;have bo:=Nf ps[k].var s.ar[k] t.ar[k];clear h1;cbv;repeat' (first|apply bw|exact zf|(intro J;cbv)|apply bG)
   all_goals try first|exact aW|exact aL|exact a6|exact aZ|exact hB _|exact aT _
   all_goals first
    |(have m:A.not (A.eq (A.asInt (A.cell c (br k) 1)) 1)=true:=yA
      have p:A.not (A.eq (A.asInt (A.cell c (br k) 1)) 0)=true:=yA;rw[f1]at m;rw[f2]at p;have ev:AM ps[k].var s.ar[k] t.ar[k]=[(s.ar[k],t.ar[k])]++[(t.ar[k],s.ar[k])]:=by unfold AM;rw[if_pos (of_decide_eq_true m),if_pos (of_decide_eq_true p)]
      have q:=p2 _ _ (p1 _ _ hr);rw[bN,<-ev]at q
      first
       |(have o:=j
         refine⟨(k+1,f++AM ps[k].var s.ar[k] t.ar[k],_),⟨yP,u,yL,q⟩,yP,[0,1,2,3],rfl,?_⟩)
       |(refine⟨(k+1,f++AM ps[k].var s.ar[k] t.ar[k],_),⟨yP,u,yL,q⟩,yP,[0,1,2,3,4,5,6,7],rfl,?_⟩)
      exact yc)
    |(have m:A.not (A.eq (A.asInt (A.cell c (br k) 1)) 1)=true:=yA
      have p:A.not (A.eq (A.asInt (A.cell c (br k) 1)) 0)=false:=yA;rw[f1]at m;rw[f2]at p;have ev:AM ps[k].var s.ar[k] t.ar[k]=[(s.ar[k],t.ar[k])]:=by unfold AM;rw[if_pos (of_decide_eq_true m),if_neg (of_decide_eq_false p)];rfl
      have q:=p1 _ _ hr;rw[<- ev]at q
      first
       |(have o:=j
         refine⟨(k+1,f++AM ps[k].var s.ar[k] t.ar[k],_),⟨yP,u,yL,q⟩,yP,[0,1,2,3],rfl,?_⟩)
       |(refine⟨(k+1,f++AM ps[k].var s.ar[k] t.ar[k],_),⟨yP,u,yL,q⟩,yP,[0,1,2,3,4,5,6,7],rfl,?_⟩)
      exact yc)
    |(have m:A.not (A.eq (A.asInt (A.cell c (br k) 1)) 1)=false:=yA
      have p:A.not (A.eq (A.asInt (A.cell c (br k) 1)) 0)=true:=yA;rw[f1]at m;rw[f2]at p;have ev:AM ps[k].var s.ar[k] t.ar[k]=[(t.ar[k],s.ar[k])]:=by unfold AM;rw[if_neg (of_decide_eq_false m),if_pos (of_decide_eq_true p)];rfl
      have q:=p2 _ _ hr;rw[<- ev]at q
      first
       |(have o:=j
         refine⟨(k+1,f++AM ps[k].var s.ar[k] t.ar[k],_),⟨yP,u,yL,q⟩,yP,[0,1,2,3],rfl,?_⟩)
       |(refine⟨(k+1,f++AM ps[k].var s.ar[k] t.ar[k],_),⟨yP,u,yL,q⟩,yP,[0,1,2,3,4,5,6,7],rfl,?_⟩)
      exact yc)
    |(have m:A.not (A.eq (A.asInt (A.cell c (br k) 1)) 1)=false:=yA
      have p:A.not (A.eq (A.asInt (A.cell c (br k) 1)) 0)=false:=yA;rw[f1]at m;rw[f2]at p;have ev:AM ps[k].var s.ar[k] t.ar[k]=[]:=by unfold AM;rw[if_neg (of_decide_eq_false m),if_neg (of_decide_eq_false p)];rfl
      have q:r=bH fc (f++AM ps[k].var s.ar[k] t.ar[k]):=by rw[ev,cA];exact hr
      first
       |(have o:=j
         refine⟨(k+1,f++AM ps[k].var s.ar[k] t.ar[k],_),⟨yP,u,yL,q⟩,yP,[0,1,2,3],rfl,?_⟩)
       |(refine⟨(k+1,f++AM ps[k].var s.ar[k] t.ar[k],_),⟨yP,u,yL,q⟩,yP,[0,1,2,3,4,5,6,7],rfl,?_⟩)
      exact yc)
    |skip
  ·have h5:k=v:=gY X.a w h1;rw[h5,af,Ms (ps:=ps.drop ps.length) yS,cA]at u;have q:=h r true (n1.yes (by rw[hp,u]) hr);cbv;exact q)
end Go.VC.cK
namespace Go.VC
section
variable {env:List IF}{ctx:List Pm}{s t:Ty}
def Qk:kU env ctx s t 1=yF s t:=rfl
def Qj:kU env ctx s t 4=wW env ctx s t:=rfl
def Qi:kU env ctx s t 5=yz env s t:=rfl
end
end Go.VC
namespace Go.VC.cK
open Go Go.VC Go.Proofs
def ZL{env:List IF}{R:D}(o:R=bH dC env)(c:dW env){ctx:List Pm}{I:D}(hc:I=bH ew ctx)(F:ctx.length<=4294967295){s t:Ty}(d:Ty.le 4294967295 s)(da:Ty.le 4294967295 t)(k:s.uy)(i:t.uy)(fL:s.ar.length<=1048576){m:Int}{a1 a2:S}{a3 a4:D}{l:Int}{b1 b2:S}{M Q:D}(hs:cD s m a1 a2 a3 a4)(f:cD t l b1 b2 M Q)
 {n:Nat} (hn:1<=n/\n<=5) {K:PV->List Ob->Prop} (h:∀r b,n1 (kU env ctx s t n) r b->K (.tup [.lst 97 r,.bool b]) []):
 FT 48 [] [.lst 51 R,.lst 56 I,df m a1 a2 a3 a4,df l b1 b2 M Q,.int .i64 (br n)] K:=by
 obtain⟨v,s1,N,q,w⟩:=id hs;obtain⟨x,t1,G,E,y⟩:=id f;refine en YP Tryz.func48 λA C L X=>?_;have Y:=fz X.a;have Z:=mI X.a;have g:=Dg X.a;have p:n=1\/n=2\/n=3\/n=4\/n=5:=yO;rcases p with rfl|rfl|rfl|rfl|rfl
 ·have e1:A.eq (br 1) 1=true:=by rw[Z];rfl
  rw[Qk]at h;have key:∀b,b=(s.k==1||t.k==0||(s.k==t.k&&(s.k==2||s.k==3||s.k==4))||(s.k==9&&t.k==9&&s.n==t.n))->K (.tup [.lst 97 (.list []),.bool b]) []:=λb e=>h _ _ (n1.p1 rfl e);have H:A.eq m l=(s.k==t.k):=by rw[Z,v,x]
  have O:∀n,A.eq m n=(s.k==n):=λn=>by rw[Z,v]
  have T:∀n,A.eq l n=(t.k==n):=λn=>by rw[Z,x]
  have P:A.seq a2 b2=(s.n==t.n):=by rw[g,N,G]
  clear h;cbv;repeat' (first|apply bw|exact zf|(intro J;first|exact yB e1 J|cbv)|apply bG)
  all_goals (refine key _ ?_;clear key X e1 Y Z g q w E y o hc hs f k i;simp only[dq,H,O,T,P]at *;clear H O T P v s1 N x t1 G;simp_all;done)
 ·have e1:A.eq (br 2) 1=false:=by rw[Z];rfl
  have e2:A.eq (br 2) 2=true:=by rw[Z];rfl
  cbv;repeat' (first|apply bw|exact zf|(intro J;first|exact yB e1 J|exact yB e2 J|cbv)|apply bG|(refine X.call (Zz d da k i hs f λr b a=>?_);cbv))
  exact h _ _ a
 ·have e1:A.eq (br 3) 1=false:=by rw[Z];rfl
  have e2:A.eq (br 3) 2=false:=by rw[Z];rfl
  have e3:A.eq (br 3) 3=true:=by rw[Z];rfl
  cbv;repeat' (first|apply bw|exact zf|(intro J;first|exact yB e1 J|exact yB e2 J|exact yB e3 J|cbv)|apply bG|(refine X.call (XJ.1 o c d da fL hs f λr b a=>?_);cbv))
  exact h _ _ a
 ·have e1:A.eq (br 4) 1=false:=by rw[Z];rfl
  have e2:A.eq (br 4) 2=false:=by rw[Z];rfl
  have e3:A.eq (br 4) 3=false:=by rw[Z];rfl
  have e4:A.eq (br 4) 4=true:=by rw[Z];rfl
  rw[Qj]at h;unfold wW at h;cbv;repeat' (first|apply bw|exact zf|(intro J;first|exact yB e1 J|exact yB e2 J|exact yB e3 J|exact yB e4 J|cbv)|apply bG|(refine X.call (Zy o c hc F d hs λW u1 V u3 u4 b hu hb=>?_);cbv))
  refine h _ _ ?_;cases j:jf env ctx s with
  |none=>rw[j]at hb;obtain rfl:b=false:=hb;exact n1.no rfl
  |some u=>rw[j]at hb hu;obtain rfl:b=true:=hb;refine n1.yes rfl ?_;refine ku (congrArg (λz=>A.lit [z]) (mb (hu rfl) f)) ?_;rw[X.a];rfl
 ·have e1:A.eq (br 5) 1=false:=by rw[Z];rfl
  have e2:A.eq (br 5) 2=false:=by rw[Z];rfl
  have e3:A.eq (br 5) 3=false:=by rw[Z];rfl
  have e4:A.eq (br 5) 4=false:=by rw[Z];rfl
  rw[Qi]at h;unfold yz at h;cbv;repeat' (first|apply bw|exact zf|(intro J;first|exact yB e1 J|exact yB e2 J|exact yB e3 J|exact yB e4 J|cbv)|apply bG|(refine X.call (Wi o c da f λW u1 V u3 u4 g0 g1 g2 g3 g4 r B U hr=>?_);cbv))
  refine h _ _ ?_;show n1 _ _ (A.eq r 0);rw[Z,hr];by_cases e:(dp env t).2.2=0
  ·rw[if_pos e,e];refine n1.yes rfl ?_;refine ku (congrArg (λz=>A.lit [z]) (mb hs B)) ?_;rw[X.a];rfl
  ·rw[if_neg e];have:((dp env t).2.2==0)=false:=yU e;rw[this];exact n1.no rfl
end Go.VC.cK
namespace Go.VC
open Classical
section
variable {a:Jm->Mem->Option (Bool×Mem)}{j:Jm}{C:List Ty}{c:Nat->Option (List Jm)}{g b l:List Jm}{r:Nat}{d:List Nat}
def ym(hd:∀j g b r,j.1∈C->j.2∈C->gx C (g,b)->a j (g,b)=some r->O2 C g b r):
 ∀(l:List Jm)(g b:List Jm)(r:Bool×Mem),(∀j∈l,j.1∈C/\j.2∈C)->gx C (g,b)->mN a l (g,b)=some r->(∃x,r.2.1=g++x)/\(∃x,r.2.2=b++x)/\gx C r.2
 |[],g,b,r,_,m,h=>by rw[mN]at h;cases h;exact⟨⟨[],yS⟩,⟨[],yS⟩,m⟩
 |j::l,g,b,r,hl,m,h=>by
  rw[mN]at h;cases e:a j (g,b)with
  |none=>rw[e]at h;cases h
  |some q=>
   rw[e]at h;have o:=hd j g b q (hl j yS).1 (hl j yS).2 m e;obtain⟨x,n,_⟩:=o.ext;obtain⟨y,i⟩:=o.bad;have f:=o.inv;obtain⟨p,u,b'⟩:=q;simp only at n i f;cases p with
   |false=>cases h;exact⟨⟨x,n⟩,⟨y,i⟩,f⟩
   |true=>obtain⟨⟨t,J⟩,⟨s,h3⟩,h4⟩:=ym hd l u b' r (λk hk=>hl k (by simp[hk])) f h;exact⟨⟨x++t,by rw[J,n,bN]⟩,⟨y++s,by rw[h3,i,bN]⟩,h4⟩
def tD(h1:j.1∈C)(J:j.2∈C)(f:j∉g)(o:∀r l,c r=some l->∀k∈l,k.1∈C/\k.2∈C)
 (hd:∀k n b' r,k.1∈C->k.2∈C->gx C (n,b')->a k (n,b')=some r->O2 C n b' r):
 ∀(d:List Nat)(b:List Jm)(q:Bool×Mem),gx C (g,b)->j∉b->gk a c j g d b=some q->O2 C g b q
 |[],b,q,i,hb,h=>by rw[gk]at h;cases h;exact⟨⟨[],yS⟩,⟨[j],rfl⟩,i.fail h1 J f hb⟩
 |r::d,b,q,i,hb,h=>by
  rw[gk]at h;cases hr:c r with
  |none=>rw[hr]at h;exact tD h1 J f o hd d b q i hb h
  |some l=>
   rw[hr]at h;simp only at h;cases p:mN a l (g++[j],b)with
   |none=>rw[p]at h;cases h
   |some v=>
    rw[p]at h;obtain⟨⟨x,m⟩,⟨y,t⟩,e⟩:=ym hd l (g++[j]) b v (o r l hr) (i.push h1 J f hb) p;obtain⟨w,n,b'⟩:=v;simp only at m t e;cases w with
    |true=>cases h;exact⟨⟨[j]++x,by simp[m],yS⟩,⟨y,t⟩,e⟩
    |false=>
     have s:gx C (g,b'):=by
      have:gx C (g++([j]++x),b'):=by rw[<- bN,<-m];exact e
      exact this.back
     have u:j∉b':=e.d j (by simp only[m];simp);have a2:=tD h1 J f o hd d b' q s u h;refine⟨a2.ext,?_,a2.inv⟩;obtain⟨z,A⟩:=a2.bad;exact⟨y++z,by rw[A,t,bN]⟩
def vA{c:Ty->Ty->Nat->Option (List Jm)}(i:Hb C c):
 ∀(n:Nat)(j:Jm)(g b:List Jm)(r:Bool×Mem),j.1∈C->j.2∈C->gx C (g,b)->lC c n j (g,b)=some r->O2 C g b r
 |0,j,g,b,r,_,_,_,h=>by rw[lC]at h;cases h
 |n+1,j,g,b,r,h1,J,f,h=>by
  rw[lC]at h;by_cases hb:j∈b
  ·rw[if_pos hb]at h;cases h;exact⟨⟨[],yS⟩,⟨[],yS⟩,f⟩
  rw[if_neg hb]at h;by_cases e:j∈g
  ·rw[if_pos e]at h;cases h;exact⟨⟨[],yS⟩,⟨[],yS⟩,f⟩
  rw[if_neg e]at h;exact tD h1 J e (λr l hr=>i _ h1 _ J r l hr) (λk m b' r a1 a2 a3 a4=>vA i n k m b' r a1 a2 a3 a4) [1,2,3,4,5] b r f hb h
def kJ(n:Nat):List Nat:=[1,2,3,4,5].drop (n-1)
def uC{n:Nat}(h:1<=n/\n<=5):kJ n=n::kJ (n+1):=by have:n=1\/n=2\/n=3\/n=4\/n=5:=yO;rcases this with rfl|rfl|rfl|rfl|rfl<;>rfl
def s4:kJ 6=[]:=rfl
def wS(h:c r=none):gk a c j g (r::d) b=gk a c j g d b:=by rw[gk,h]
def wR{f:Bool×Mem}(h:c r=some l)(hr:gk a c j g (r::d) b=some f):
 ∃q,mN a l (g++[j],b)=some q/\(q.1=true->f=q)/\(q.1=false->gk a c j g d q.2.2=some f):=by
 rw[gk,h]at hr;simp only at hr;cases i:mN a l (g++[j],b)with
 |none=>rw[i]at hr;cases hr
 |some q=>
  rw[i]at hr;obtain⟨k,m⟩:=q;cases k with
  |true=>cases hr;exact⟨_,rfl,λ_=>rfl,λe=>absurd e yS⟩
  |false=>exact⟨_,rfl,λe=>absurd e yS,λ_=>hr⟩
def vZ{m:Mem}{q:Bool×Mem}(h:mN a (j::l) m=some q):
 ∃r,a j m=some r/\(r.1=true->mN a l r.2=some q)/\(r.1=false->q=r):=by
 rw[mN]at h;cases hd:a j m with
 |none=>rw[hd]at h;cases h
 |some r=>
  rw[hd]at h;obtain⟨r0,m'⟩:=r;cases r0 with
  |true=>exact⟨_,rfl,λ_=>h,λe=>absurd e yS⟩
  |false=>cases h;exact⟨_,rfl,λe=>absurd e yS,λ_=>rfl⟩
end
end Go.VC
namespace Go.VC
def oV(env:List IF)(t:Ty):List Ty:=t.dP++(if(dp env t).2.2=0 then [(dp env t).1,(dp env t).2.1]else [])
structure Wt (t:Ty):Prop where
 le:Ty.le 4294967295 t
 sz:t.size<=4294967295
structure Tm (env:List IF) (l K W:List Ty):Prop where
 len:K.length<=120
 sz:∀t∈K,t.size<=200
 init:∀t∈l,t∈K\/t∈W
 cl:∀t∈K,∀u∈oV env t,u∈K\/u∈W
 wl:W.length<=l.length+K.length*202
 wt:∀t∈W,Wt t
 UL:∀t∈K,Ty.le 4294967295 t
def Tm.start{env:List IF}{l:List Ty}(h:∀t∈l,Wt t):Tm env l [] l:=⟨yS,yS,λt a=>.inr a,yS,yS,h,yS⟩
def Tm.seen{env:List IF}{l K W:List Ty}{t:Ty}(h:Tm env l K (W++[t]))(b:t∈K):Tm env l K W:=by
 refine⟨h.len,h.sz,λu hu=>?_,λs hs u hu=>?_,?_,λu hu=>h.wt u (by simp[hu]),h.UL⟩
 ·rcases h.init u hu with a|a
  ·exact .inl a
  ·rcases bJ.1 a with a|a
   ·exact .inr a
   ·simp at a;subst a;exact .inl b
 ·rcases h.cl s hs u hu with a|a
  ·exact .inl a
  ·rcases bJ.1 a with a|a
   ·exact .inr a
   ·simp at a;subst a;exact .inl b
 ·have:=h.wl;simp at this;omega
def Wt.part{t u:Ty}(h:Wt t)(hu:u∈t.dP):Wt u:=by refine⟨gP h.le u hu,?_⟩;have:=size_eq t;have J:u.size<=(t.dP.map Ty.size).sum:=p8 (bT.2 ⟨u,hu,rfl⟩);have:=h.sz;omega
def Wt.fU{env:List IF}(a:∀i∈env,i.fit){t:Ty}(e:Wt t)(hs:t.size<=200):Wt (dp env t).1/\Wt (dp env t).2.1:=by
 have z:Wt Ty.zero:=⟨ug,by simp[Ty.zero,Ty.size,Ty.sY,Ty.sZ]⟩;unfold dp;split
 ·exact⟨z,z⟩
 ·split
  ·exact⟨z,z⟩
  ·rename_i h1;split
   ·exact⟨z,z⟩
   ·obtain⟨i,f,g⟩:=Dz (yU h1);have c:=(a i f).t _ g;have b:∀u∈t.ar,Wt u/\u.size<=200:=λu hu=>by refine⟨e.part (nN hu),?_⟩;have:=size_eq t;have J:u.size<=(t.dP.map Ty.size).sum:=p8 (bT.2 ⟨u,nN hu,rfl⟩);omega
    have go:∀y:Ty,y.fit->∀ns,Wt (y.sub ns t.ar):=λy d ns=>by refine⟨sub_le (λu hu=>(b u hu).1.le) y d.le,?_⟩;have:=Ko (ns:=ns) (by decide:1<=200) (λu hu=>(b u hu).2) y;have:=d.sz;omega
    exact⟨go _ c.lo _,go _ c.up _⟩
def Tm.new{env:List IF}(d:∀i∈env,i.fit){l K W:List Ty}{t:Ty}(h:Tm env l K (W++[t]))(hk:K.length<120)(hs:t.size<=200):Tm env l (K++[t]) (W++oV env t):=by
 have e:=h.wt t yS;have f:(oV env t).length<=202:=by have:=km t;unfold oV;rw[bE];split<;>simp<;>omega
 refine⟨yQ,λu hu=>?_,λu hu=>?_,λs c u hu=>?_,?_,λu hu=>?_,λu hu=>by
  rcases bJ.1 hu with hu|hu
  ·exact h.UL u hu
  ·simp at hu;subst hu;exact e.le⟩
 ·rcases bJ.1 hu with hu|hu
  ·exact h.sz u hu
  ·simp at hu;subst hu;exact hs
 ·rcases h.init u hu with a|a
  ·exact .inl (by simp[a])
  ·rcases bJ.1 a with a|a
   ·exact .inr (by simp[a])
   ·simp at a;subst a;exact .inl yS
 ·rcases bJ.1 c with c|c
  ·rcases h.cl s c u hu with a|a
   ·exact .inl (by simp[a])
   ·rcases bJ.1 a with a|a
    ·exact .inr (by simp[a])
    ·simp at a;subst a;exact .inl yS
  ·simp at c;subst c;exact .inr (by simp[hu])
 ·have:=h.wl;simp only[bE,bS,cH]at this ⊢;omega
 ·rcases bJ.1 hu with hu|hu
  ·exact h.wt u (by simp[hu])
  ·unfold oV at hu;rcases bJ.1 hu with hu|hu
   ·exact e.part hu
   ·obtain⟨a,b⟩:=Wt.fU d e hs;split at hu
    ·simp at hu;rcases hu with rfl|rfl
     ·exact a
     ·exact b
    ·simp at hu
def Tm.fin{env:List IF}{l K:List Ty}(h:Tm env l K []):Il env l K:=by
 refine⟨h.len,h.sz,λt b=>?_,λt b u hu=>?_,λt b e=>⟨?_,?_⟩⟩
 ·rcases h.init t b with a|a
  ·exact a
  ·simp at a
 ·rcases h.cl t b u (eu _ hu)with a|a
  ·exact a
  ·simp at a
 ·rcases h.cl t b _ (dV _ (by rw[if_pos e];exact List.mem_cons_self))with a|a
  ·exact a
  ·simp at a
 ·rcases h.cl t b (dp env t).2.1 (dV _ (by rw[if_pos e];simp))with a|a
  ·exact a
  ·simp at a
def P8(l K W:List Ty):Nat:=(120-K.length)*(l.length+24241)+W.length
def Kf{l K W:List Ty}{t:Ty}:P8 l K W<P8 l K (W++[t]):=by unfold P8;simp
def Ht{env:List IF}{l K W a:List Ty}{t:Ty}(h:Tm env l (K++[t]) a)(hk:K.length<120):P8 l (K++[t]) a<P8 l K (W++[t]):=by have:=h.wl;unfold P8;simp only[bE,bS,cH]at this ⊢;obtain⟨d,hd⟩:∃d,120-K.length=d+1:=⟨119-K.length,yO⟩;have e:120-(K.length+(0+1))=d:=yO;rw[e,hd,Nat.succ_mul];omega
end Go.VC
