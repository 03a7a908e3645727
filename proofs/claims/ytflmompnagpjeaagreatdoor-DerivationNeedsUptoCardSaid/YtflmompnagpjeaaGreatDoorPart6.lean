/- Part 6 of the common texts. -/
import Derived.Shelf.Strings.Builder1
import Derived.Test.YtflmompnagpjeaaGreatDoorPart5
set_option linter.all false
set_option maxRecDepth 100000
set_option maxHeartbeats 16000000
open And renaming intro→bq
open Array renaming ext→PG,getElem?_append_left→gM,getElem?_eq_getElem→du
open Bool renaming and_false→iI,false_and→n9,false_eq_true→cv,or_assoc→vD
open Eq renaming trans→iu
open Int renaming lt_trichotomy→pS,ofNat→bk,ofNat_eq_natCast→bz
open List renaming all_eq_true→eF,any_cons→E8,append_assoc→bI,append_inj→rW,append_nil→cA,cons_append→dP,countP_eq_length_filter→jh,countP_mono_left→JM,drop_eq_getElem_cons→bF,drop_length→cd,eraseP_cons→p7,eraseP_sublist→uB,find?_cons→cH,find?_eq_none→eN,flatMap_append→eD,flatMap_cons→fP,foldl_append→PD,foldl_cons→fB,foldl_nil→CE,getElem?_eq_getElem→bx,getElem?_eq_none→ca,getElem?_map→cu,getElem_mem→bu,length_append→bt,length_cons→bM,length_erase_of_mem→E7,length_filter_le→lO,length_flatMap→nj,length_map→bL,length_nil→bX,length_pos_of_mem→Ii,length_singleton→dJ,length_take→cJ,map_append→cj,map_cons→bJ,mem_append→bG,mem_append_left→dF,mem_append_right→dI,mem_cons→bN,mem_cons_of_mem→jC,mem_erase_of_ne→JU,mem_filter→kH,mem_flatMap→dp,mem_map→bP,mem_of_find?_eq_some→eb,mem_of_mem_take→mq,mem_singleton→df,mem_take_iff_getElem→jU,nodup_append→cV,nodup_cons→cw,not_mem_nil→zx,singleton_append→JK,sum_cons→cm,take_append_drop→cX,take_length→bD,take_of_length_le→db,take_zero→CC
open Nat renaming add_assoc→eY,add_comm→nZ,le_of_lt→JI,le_trans→bQ,lt_of_le_of_lt→jd,lt_or_ge→bV,min_eq_left→Cv,strongRecOn→Cu,zero_add→dW,zero_le→bB
open Option renaming bind_some→iy,getD_some→eR,isSome_iff_exists→eQ,isSome_map→No,isSome_none→nH
open Option.some renaming injEq→cz
open Or renaming inl→bE
open Prod renaming ext→dR
open Prod.mk renaming inj→rV,injEq→gb
open UInt8 renaming ofNat→iN
namespace Go.VC
def Wb(k:Int)(sh b:Bool)(e f tb:Bool)(nl:Bool)(d:Int):Int:=if !sh then 1 else if b then 7 else if(k=9/\e=false)\/(k=10/\(f=false\/tb=false))then 4 else if nl then 4 else d
def QB(t:Ty):CU t=Wb t.k (eA t) (decide (32<t.fl.length\/8<t.ar.length)) (Fg t.n) (K6 t.m) (my t.n) (t.fl.any λf=> !lg f.s) (yF (t.fl.map Fe.s)):=by unfold CU Wb;simp only[decide_eq_true_eq]
def RJ:∀(t:Ty),Ty.le 4294967295 t->∀u∈t.all,Ty.le 4294967295 u:=by
 refine Ty.gj λt d=>?_;intro h u hu;rw[all_eq]at hu;rcases bN.1 hu with rfl|hu
 ·exact h
 ·obtain⟨v,b,hu⟩:=dp.1 hu;exact d v b (ie h v b) u hu
end Go.VC
namespace Go.VC.cG
open Go Go.VC Go.Proofs
section
variable {t:Ty}{g:Int}{c1 c2:S}{a c:D}{K:PV->List Ob->Prop}
def Y1(q:Ty.le 4294967295 t)(G:t.mi)(y:cD t g c1 c2 a c)(h:∀e,e=CU t->K (.int .i64 e) []):FT 220 [] [dO g c1 c2 a c] K:=by
 have E:=y;obtain⟨M,F,w,u,i⟩:=E;have o:t.fl.length<=4294967295:=by cases q;assumption
 have B:c1.length<=1048576:=by rw[F];exact G.m
 have z:c2.length<=1048576:=by rw[w];exact G.n
 refine en (cf 50) Tryz.func220 λA C L X=>?_;have l3:A.len a=bk t.ar.length:=iW X.a u;have l4:A.len c=bk t.fl.length:=iW X.a i;have Y:=fz X.a;have Z:=qH X.a;obtain⟨b1,r⟩:∃b,b=A.lt 32 (A.len c):=⟨_,rfl⟩;obtain⟨b2,p⟩:∃b,b=A.lt 8 (A.len a):=⟨_,rfl⟩;obtain⟨sh,j⟩:∃b,b=eA t:=⟨_,rfl⟩;obtain⟨N,l⟩:∃b,b=Fg c2:=⟨_,rfl⟩;obtain⟨O,m⟩:∃b,b=K6 c1:=⟨_,rfl⟩;obtain⟨tb,k⟩:∃b,b=my c2:=⟨_,rfl⟩;obtain⟨nl,n⟩:∃b,b=t.fl.any λf=> !lg f.s:=⟨_,rfl⟩;obtain⟨H,d⟩:∃e,e=yF (t.fl.map Fe.s):=⟨_,rfl⟩
 have s:CU t=Wb g sh (b1||b2) N O tb nl H:=by
  have e:decide (32<t.fl.length\/8<t.ar.length)=(b1||b2):=by
   rw[r,p,l3,l4,X.a,im,im];simp only[bz];rw[Bool.decide_or]
   congr 1<;>(apply decide_eq_decide.2;omega)
  rw[QB,e,j,l,m,k,n,d,M,F,w]
 rw[s]at h;clear s M F w l3 l4;cbv;refine X.call (YH q y λb hb=>?_);rw[<- j]at hb;cbv;repeat' (first|apply bq|exact zf|(intro J;cbv)|apply bE|(refine X.call (V0 yO λb3 U=>?_);cbv)|(refine X.call (YF yO λb4 T=>?_);cbv)|(refine X.call (JG yO λV Q=>?_);cbv)|(refine X.call (M2 i o (λx R g c1 c2 a c c5 c6 K' v I=>YE (bQ (G.f x R) yD) v I) λW P=>?_);cbv)|(refine X.call (YD i o λe he=>?_);cbv))
 all_goals (refine h _ ?_;clear h q;simp only[dL,Y,<-r,<-p,<-l,<-m,<-k,<-n,<-d,<-j]at *;clear r p l m k n d j;simp only[Z]at *;clear X Y Z u i o y B z;simp_all[Wb])
def T7:ea:={tt:=tt,n:=21,n0:=2,Cz:=true}
def Zc(i:Ty.le 4294967295 t)(hs:t.size<=4294967295)(E:∀u∈t.all,u.mi)(x:cD t g c1 c2 a c)
 (h:∀r:Int,r=Mg t->K (.int .i64 r) []):FT 188 [] [dO g c1 c2 a c] K:=by
 refine en (cf 21) Tryz.func188 λA C L X=>?_;cbv;refine X.call (VT i hs x λn y=>?_);have v:A.lt 4096 n=decide (4096<t.size):=by rw[X.a,y,im];apply decide_eq_decide.2;simp only[bz];omega
 have k:(4096<t.size\/32<t.zb)->7=Mg t:=λh=>by rw[Mg,if_pos h]
 have b:¬(4096<t.size\/32<t.zb)->∀r,r=gp (t.all.map CU)->r=Mg t:=λh r hr=>by rw[Mg,if_neg h,hr]
 have o:∀d:Int,d=bk t.zb->A.lt 32 d=decide (32<t.zb):=by intro d w;rw[X.a,w,im];apply decide_eq_decide.2;simp only[bz];omega
 have j:=tE (f:=CU) t.all;have q:∀u∈t.all,Ty.le 4294967295 u/\u.mi:=λu hu=>⟨RJ t i u hu,E u hu⟩;cbv;repeat' (first|apply bq|exact zf|(intro J;cbv)|apply bE|(refine X.call (VS t i hs x λd w=>?_);cbv))
 ·have J:A.lt 32 d=true:=J;have J:=(o _ w).symm.trans J;exact h _ (k (.inr (of_decide_eq_true J)))
 ·have h3:¬(4096<t.size\/32<t.zb):=by have J:A.lt 32 d=false:=J;have J:=(o _ w).symm.trans J;have e2:A.lt 4096 n=false:=yA;have e2:=v.symm.trans e2;have:=of_decide_eq_false J;have:=of_decide_eq_false e2;omega
  have b:=b h3;refine X.call (Sn ?_);cbv;refine X.range rfl ⟨Tryz.func255,by rfl,rfl⟩ rfl [(2,.box 1 0)] ?_ ?_
  ·cbv
  cbv;refine X.call (Qm (Q:=λu=>Ty.le 4294967295 u/\u.mi) (s:=0) (go:=λt s=>if CU t=0 then s else CU t) (ok:=λt=>CU t==0) i hs q x ?_ ?_ ?_)
  ·intro u s H b1 b2 F I B z hu h1 h0;refine YC.enter (G:=T7) k9 mixed rfl rfl rfl rfl rfl ?_;intro A C L X;have Y:=fz X.a;have Z:=qH X.a;cbv;refine X.call (Y1 z.1 z.2 hu λe he=>?_);have p:CU u≠0->B (.bl false) [.loop _ _ _ _ [(2,.box 1 0)] (.done .ret),.box [.int .i64 e]]:=λhz=>h0 (yU hz) e (by rw[if_neg hz,he]);have m:CU u=0->B (.bl true) [.loop _ _ _ _ [(2,.box 1 0)] .ready,.box [.int .i64 s]]:=λhz=>h1 (yU hz) s (by rw[if_pos hz]);refine p2 (λJ=>?_) (λJ=>?_)
   ·have J:A.not (A.eq e 0)=true:=J;rw[Y,Z,he]at J;exact p (yU J)
   ·have J:A.not (A.eq e 0)=false:=J;rw[Y,Z,he]at J;exact m (yU J)
  ·intro s' l;have e:=l.symm.trans j;have e1:=(rV e).1;have e2:=(rV e).2;have hz:s'=0:=by rw[e1];simpa using e2.symm
   cbv;exact h 0 (b 0 (by rw[<- e1,hz]))
  ·intro s' l;have e:=l.symm.trans j;have e1:=(rV e).1;cbv;exact h s' (b s' e1)
 ·have J:A.lt 4096 n=true:=J;have J:=v.symm.trans J;exact h _ (k (.inl (of_decide_eq_true J)))
end
end Go.VC.cG
namespace Go.VC
section
variable {l:List S}{s:S}{i:Nat}
def OF(h:i<l.length)(ha:∀x∈l.take i,(x==s)=false)(a:l[i]=s):jb l s=(i:Int):=fp h ha (by simp[a])
def OE(ha:∀x∈l.take i,(x==s)=false):jb l s= -1\/(i:Int)<=jb l s:=by
 rcases kR (λx=>x==s) l with⟨e1,_⟩|⟨j,h5,e1,e2,e3⟩
 ·exact .inl e1
 ·refine .inr ?_;rw[jb,e1];rcases bV j i with h|h
  ·have a:(l[j]==s)=false:=ha l[j] (by rw[jU];exact⟨j,yO,rfl⟩);have h8:(l[j]==s)=true:=e2;rw[h8]at a;cases a
  ·omega
end
end Go.VC
namespace Go.VC.cG
open Go Go.VC Go.Proofs
def V1{ns:List S}{ts:List Ty}{dn W:D}(hn:dn=bA encS ns)(ae:W=bA cq ts)(ar:ns.length<=4294967295)(ao:ts.length<=4294967295):
 ∀(t:Ty),Ty.le 4294967295 t->∀{I:Int}{c1 c2:S}{R m:D}{K:PV->List Ob->Prop},cD t I c1 c2 R m->(∀E e1 e2 e3 F,cD (t.sub ns ts) E e1 e2 e3 F->K (dO E e1 e2 e3 F) [])->FC Tryz.prog tt 127 [] [dO I c1 c2 R m,.lst 9 dn,.lst 29 W] K:=by
 refine Ty.parts λt ad ac=>?_;intro H I c1 c2 R m K ht h;obtain⟨t0,t1,t2,O,B⟩:=ht;have aq:=q9 H;have ap:=wB H;refine FC.enter (G:=XN) k9 mixed ⟨Tryz.func127,by rfl,rfl⟩ rfl rfl rfl ?_;intro A C L X;obtain⟨ab,aj,d⟩:=lenOf hn;obtain⟨am,ak,a⟩:=lenOf ae;obtain⟨g,N,b⟩:=lenOf O;obtain⟨j,M,c⟩:=lenOf B;cbv;repeat' (first|apply bq|exactλ(_:FF)=>by kernel_rfl|(intro J;cbv)|apply bE)
 ·refine X.loop (λ(y:Nat)=>⟨[(7,.int .i64 y),(1,.lst 9 dn),(2,.lst 29 W),(3,.box 0 0),(6,.box 1 0)],[.box [.int .i64 I,.str c1,.str c2,.lst 29 R,.lst 57 m],.box [.undef,.undef,.undef,.undef,.undef]]⟩)
   (λy=>y<=ab/\∀x∈ns.take y,(x==t.n)=false) (λy=>ab-y) 0 ⟨bB _,by simp⟩ ?_ ?_
  ·(cbv;repeat' apply bq);all_goals try first|trivial|rfl|(rw[X.a];rfl)
  rintro i ⟨P,ha⟩;cbv;repeat' (first|apply bq|exactλ(_:FF)=>by kernel_rfl|(intro J;cbv)|apply bE)
  ·have h5:i<ns.length:=by obtain rfl:=X.a;simp only[d,SD,dL]at *;omega
   have h6:i<ts.length:=by obtain rfl:=X.a;simp only[a,SD,dL]at *;omega
   rw[X.a,hn];exact cY h5
  ·have h5:i<ns.length:=by obtain rfl:=X.a;simp only[d,SD,dL]at *;omega
   have h6:i<ts.length:=by obtain rfl:=X.a;simp only[a,SD,dL]at *;omega
   rw[X.a,ae];exact cY h6
  ·have h5:i<ns.length:=by obtain rfl:=X.a;simp only[d,SD,dL]at *;omega
   have h6:i<ts.length:=by obtain rfl:=X.a;simp only[a,SD,dL]at *;omega
   have Q:=gT X.a ae h6;have T:=tv X.a hn h5;have hk:t.k=9:=by rw[<- t0];obtain rfl:=X.a;simp only[SD,dL]at *;omega
   have hs:ns[i]=t.n:=by rw[<- T,<-t2];obtain rfl:=X.a;simpa only[SD,dL]using J
   refine h _ _ _ _ _ ?_;rw[By hk (OF h5 ha hs) h6];exact Q
  ·have h5:i<ns.length:=by obtain rfl:=X.a;simp only[d,SD,dL]at *;omega
   have h6:i<ts.length:=by obtain rfl:=X.a;simp only[a,SD,dL]at *;omega
   rw[X.a];exact fm h5 (by omega)
  ·have h5:i<ns.length:=by obtain rfl:=X.a;simp only[d,SD,dL]at *;omega
   have h6:i<ts.length:=by obtain rfl:=X.a;simp only[a,SD,dL]at *;omega
   have T:=tv X.a hn h5;have hs:¬ns[i]=t.n:=by rename_i g3;rw[<- T,<-t2];obtain rfl:=X.a;simpa only[SD,dL]using g3
   refine⟨i+1,⟨by omega,?_⟩,by omega,?_⟩
   ·rw[cb h5];intro x hx;rcases bG.1 hx with hx|hx
    ·exact ha x hx
    ·simp at hx;subst hx;simpa using hs
   (cbv;repeat' apply bq);all_goals try first|trivial|rfl|(rw[X.a];rfl)
  ·have U:¬(t.k=9/\0<=jb ns t.n/\jb ns t.n<ts.length):=by
    have h6:ts.length<=i:=by obtain rfl:=X.a;simp only[a,SD,dL]at J;omega
    rcases OE ha with e|e<;>omega
   clear ha P
   refine X.j0 (λ(y:Nat×D)=>⟨[(9,.int .i64 y.1),(1,.lst 9 dn),(2,.lst 29 W),(3,.box 0 0),(6,.box 1 0),(8,.box 4 0)],[.box [.int .i64 I,.str c1,.str c2,.lst 29 R,.lst 57 m],.box [.undef,.undef,.undef,.undef,.undef],.row 29 y.2 true,.row 57 (.list []) true,.box [.int .i64 I,.str c1,.str c2,.row 29 2,.row 57 3]]⟩)
    (λy=>y.1<=g/\y.2=bA cq ((t.ar.take y.1).map (Ty.sub ns ts))) (λy=>g-y.1) (0,.list []) ⟨bB _,rfl⟩ ?_ ?_
   ·refine⟨[0,1,2,3,4],rfl,?_⟩
    (cbv;repeat' apply bq);all_goals try first|trivial|rfl|(rw[X.a];rfl)
   rintro⟨i,r⟩ ⟨P,hr⟩;simp only at P hr;cbv;refine⟨λh1=>?_,λh1=>?_⟩
   ·have h5:i<t.ar.length:=by obtain rfl:=X.a;simp only[b,SD,dL]at h1;omega
    have Q:=gT X.a O h5;have z:A.idx (bk i) (A.len R):=by rw[X.a,O];exact cY h5
    have q:A.inr .i64 (A.add (bk i) 1):=by rw[X.a];exact fm h5 (by omega)
    cbv;repeat' (first|apply bq|exactλ(_:FF)=>by kernel_rfl|(intro J;cbv)|apply bE)
    any_goals exact z
    refine X.call (ad _ (bu h5) (qd H _ (bu h5)) Q λE e1 e2 e3 F he=>?_);obtain⟨n,w,u,p,o⟩:=he;have v:A.gh (A.add (A.len r) (A.len (A.lit [[.int E,.str e1,.str e2,e3,F]]))) 4294967296:=by rw[X.a,hr];simp only[SD,dL,bL];omega
    have V:A.app r (A.lit [[.int E,.str e1,.str e2,e3,F]])=bA cq ((t.ar.take (i+1)).map (Ty.sub ns ts)):=by rw[n,w,u,p,o,X.a,hr,map_take h5,<-dk];exact cB (k:=[t.ar[i].sub ns ts])
    cbv;repeat' (first|apply bq|exactλ(_:FF)=>by kernel_rfl|(intro J;cbv)|apply bE)
    any_goals exact v
    any_goals exact q
    refine⟨(i+1,_),⟨?_,V⟩,?_,[0,1,2,3,4],rfl,?_⟩
    ·simp only;omega
    ·simp only;omega
    (cbv;repeat' apply bq);all_goals try first|trivial|rfl|(rw[X.a];rfl)
   have h5:i=g:=by obtain rfl:=X.a;simp only[b,SD,dL]at h1;omega
   subst h5;rw[N,bD]at hr;cbv
   refine X.j0 (λ(y:Nat×D)=>⟨[(10,.int .i64 y.1),(1,.lst 9 dn),(2,.lst 29 W),(3,.box 0 0),(6,.box 1 0),(8,.box 4 0)],[.box [.int .i64 I,.str c1,.str c2,.lst 29 R,.lst 57 m],.box [.undef,.undef,.undef,.undef,.undef],.row 29 r true,.row 57 y.2 true,.box [.int .i64 I,.str c1,.str c2,.row 29 2,.row 57 3]]⟩)
    (λy=>y.1<=j/\y.2=bA eZ ((t.fl.take y.1).map (Fe.sub ns ts))) (λy=>j-y.1) (0,.list []) ⟨bB _,rfl⟩ ?_ ?_
   ·refine⟨[0,1,2,3,4],rfl,?_⟩
    (cbv;repeat' apply bq);all_goals try first|trivial|rfl|(rw[X.a];rfl)
   rintro⟨i,r2⟩ ⟨P,f⟩;simp only at P f;cbv;refine⟨λh1=>?_,λh1=>?_⟩
   ·have h5:i<t.fl.length:=by obtain rfl:=X.a;simp only[c,SD,dL]at h1;omega
    have Q:=jS X.a B h5;have T:=zK X.a B h5;have z:A.idx (bk i) (A.len m):=by rw[X.a,B];exact cY h5
    have q:A.inr .i64 (A.add (bk i) 1):=by rw[X.a];exact fm h5 (by omega)
    cbv;repeat' (first|apply bq|exactλ(_:FF)=>by kernel_rfl|(intro J;cbv)|apply bE)
    any_goals exact z
    refine X.call (ac _ (bu h5) (sB H _ (bu h5)) Q λE e1 e2 e3 F he=>?_);obtain⟨n,w,u,p,o⟩:=he;have v:A.gh (A.add (A.len r2) (A.len (A.lit [[.str (A.bH (A.cell m (bk i) 0)),.int E,.str e1,.str e2,e3,F,.bool (A.asBool (A.cell m (bk i) 6))]]))) 4294967296:=by rw[X.a,f];simp only[SD,dL,bL];omega
    have V:A.app r2 (A.lit [[.str (A.bH (A.cell m (bk i) 0)),.int E,.str e1,.str e2,e3,F,.bool (A.asBool (A.cell m (bk i) 6))]])=bA eZ ((t.fl.take (i+1)).map (Fe.sub ns ts)):=by
     rw[n,w,u,p,o,T.1,T.2,X.a,f,map_take h5];refine iu ?_ (cB (k:=[Fe.sub ns ts t.fl[i]]))
     congr 1
     refine Q5 ?_;rw[ku,Fe.sub_eq];rfl
    cbv;repeat' (first|apply bq|exactλ(_:FF)=>by kernel_rfl|(intro J;cbv)|apply bE)
    any_goals exact v
    any_goals exact q
    refine⟨(i+1,_),⟨?_,V⟩,?_,[0,1,2,3,4],rfl,?_⟩
    ·simp only;omega
    ·simp only;omega
    (cbv;repeat' apply bq);all_goals try first|trivial|rfl|(rw[X.a];rfl)
   have h5:i=j:=by obtain rfl:=X.a;simp only[c,SD,dL]at h1;omega
   subst h5;rw[M,bD]at f;cbv;refine h _ _ _ _ _ ?_;rw[jD U];exact⟨t0,t1,t2,hr,f⟩
  ·have U:¬(t.k=9/\0<=jb ns t.n/\jb ns t.n<ts.length):=by
    have h6:ns.length<=i:=by obtain rfl:=X.a;simp only[d,SD,dL]at J;omega
    rw[db h6]at ha;rw[jb,fq ha];omega
   clear ha P
   refine X.j0 (λ(y:Nat×D)=>⟨[(9,.int .i64 y.1),(1,.lst 9 dn),(2,.lst 29 W),(3,.box 0 0),(6,.box 1 0),(8,.box 4 0)],[.box [.int .i64 I,.str c1,.str c2,.lst 29 R,.lst 57 m],.box [.undef,.undef,.undef,.undef,.undef],.row 29 y.2 true,.row 57 (.list []) true,.box [.int .i64 I,.str c1,.str c2,.row 29 2,.row 57 3]]⟩)
    (λy=>y.1<=g/\y.2=bA cq ((t.ar.take y.1).map (Ty.sub ns ts))) (λy=>g-y.1) (0,.list []) ⟨bB _,rfl⟩ ?_ ?_
   ·refine⟨[0,1,2,3,4],rfl,?_⟩
    (cbv;repeat' apply bq);all_goals try first|trivial|rfl|(rw[X.a];rfl)
   rintro⟨i,r⟩ ⟨P,hr⟩;simp only at P hr;cbv;refine⟨λh1=>?_,λh1=>?_⟩
   ·have h5:i<t.ar.length:=by obtain rfl:=X.a;simp only[b,SD,dL]at h1;omega
    have Q:=gT X.a O h5;have z:A.idx (bk i) (A.len R):=by rw[X.a,O];exact cY h5
    have q:A.inr .i64 (A.add (bk i) 1):=by rw[X.a];exact fm h5 (by omega)
    cbv;repeat' (first|apply bq|exactλ(_:FF)=>by kernel_rfl|(intro J;cbv)|apply bE)
    any_goals exact z
    refine X.call (ad _ (bu h5) (qd H _ (bu h5)) Q λE e1 e2 e3 F he=>?_);obtain⟨n,w,u,p,o⟩:=he;have v:A.gh (A.add (A.len r) (A.len (A.lit [[.int E,.str e1,.str e2,e3,F]]))) 4294967296:=by rw[X.a,hr];simp only[SD,dL,bL];omega
    have V:A.app r (A.lit [[.int E,.str e1,.str e2,e3,F]])=bA cq ((t.ar.take (i+1)).map (Ty.sub ns ts)):=by rw[n,w,u,p,o,X.a,hr,map_take h5,<-dk];exact cB (k:=[t.ar[i].sub ns ts])
    cbv;repeat' (first|apply bq|exactλ(_:FF)=>by kernel_rfl|(intro J;cbv)|apply bE)
    any_goals exact v
    any_goals exact q
    refine⟨(i+1,_),⟨?_,V⟩,?_,[0,1,2,3,4],rfl,?_⟩
    ·simp only;omega
    ·simp only;omega
    (cbv;repeat' apply bq);all_goals try first|trivial|rfl|(rw[X.a];rfl)
   have h5:i=g:=by obtain rfl:=X.a;simp only[b,SD,dL]at h1;omega
   subst h5;rw[N,bD]at hr;cbv
   refine X.j0 (λ(y:Nat×D)=>⟨[(10,.int .i64 y.1),(1,.lst 9 dn),(2,.lst 29 W),(3,.box 0 0),(6,.box 1 0),(8,.box 4 0)],[.box [.int .i64 I,.str c1,.str c2,.lst 29 R,.lst 57 m],.box [.undef,.undef,.undef,.undef,.undef],.row 29 r true,.row 57 y.2 true,.box [.int .i64 I,.str c1,.str c2,.row 29 2,.row 57 3]]⟩)
    (λy=>y.1<=j/\y.2=bA eZ ((t.fl.take y.1).map (Fe.sub ns ts))) (λy=>j-y.1) (0,.list []) ⟨bB _,rfl⟩ ?_ ?_
   ·refine⟨[0,1,2,3,4],rfl,?_⟩
    (cbv;repeat' apply bq);all_goals try first|trivial|rfl|(rw[X.a];rfl)
   rintro⟨i,r2⟩ ⟨P,f⟩;simp only at P f;cbv;refine⟨λh1=>?_,λh1=>?_⟩
   ·have h5:i<t.fl.length:=by obtain rfl:=X.a;simp only[c,SD,dL]at h1;omega
    have Q:=jS X.a B h5;have T:=zK X.a B h5;have z:A.idx (bk i) (A.len m):=by rw[X.a,B];exact cY h5
    have q:A.inr .i64 (A.add (bk i) 1):=by rw[X.a];exact fm h5 (by omega)
    cbv;repeat' (first|apply bq|exactλ(_:FF)=>by kernel_rfl|(intro J;cbv)|apply bE)
    any_goals exact z
    refine X.call (ac _ (bu h5) (sB H _ (bu h5)) Q λE e1 e2 e3 F he=>?_);obtain⟨n,w,u,p,o⟩:=he;have v:A.gh (A.add (A.len r2) (A.len (A.lit [[.str (A.bH (A.cell m (bk i) 0)),.int E,.str e1,.str e2,e3,F,.bool (A.asBool (A.cell m (bk i) 6))]]))) 4294967296:=by rw[X.a,f];simp only[SD,dL,bL];omega
    have V:A.app r2 (A.lit [[.str (A.bH (A.cell m (bk i) 0)),.int E,.str e1,.str e2,e3,F,.bool (A.asBool (A.cell m (bk i) 6))]])=bA eZ ((t.fl.take (i+1)).map (Fe.sub ns ts)):=by
     rw[n,w,u,p,o,T.1,T.2,X.a,f,map_take h5];refine iu ?_ (cB (k:=[Fe.sub ns ts t.fl[i]]))
     congr 1
     refine Q5 ?_;rw[ku,Fe.sub_eq];rfl
    cbv;repeat' (first|apply bq|exactλ(_:FF)=>by kernel_rfl|(intro J;cbv)|apply bE)
    any_goals exact v
    any_goals exact q
    refine⟨(i+1,_),⟨?_,V⟩,?_,[0,1,2,3,4],rfl,?_⟩
    ·simp only;omega
    ·simp only;omega
    (cbv;repeat' apply bq);all_goals try first|trivial|rfl|(rw[X.a];rfl)
   have h5:i=j:=by obtain rfl:=X.a;simp only[c,SD,dL]at h1;omega
   subst h5;rw[M,bD]at f;cbv;refine h _ _ _ _ _ ?_;rw[jD U];exact⟨t0,t1,t2,hr,f⟩
 ·have U:¬(t.k=9/\0<=jb ns t.n/\jb ns t.n<ts.length):=by rw[<- t0];rintro⟨e,_⟩;obtain rfl:=X.a;simp only[SD,dL]at J;simp[e]at J
  refine X.j0 (λ(y:Nat×D)=>⟨[(9,.int .i64 y.1),(1,.lst 9 dn),(2,.lst 29 W),(3,.box 0 0),(6,.box 1 0),(8,.box 4 0)],[.box [.int .i64 I,.str c1,.str c2,.lst 29 R,.lst 57 m],.box [.undef,.undef,.undef,.undef,.undef],.row 29 y.2 true,.row 57 (.list []) true,.box [.int .i64 I,.str c1,.str c2,.row 29 2,.row 57 3]]⟩)
   (λy=>y.1<=g/\y.2=bA cq ((t.ar.take y.1).map (Ty.sub ns ts))) (λy=>g-y.1) (0,.list []) ⟨bB _,rfl⟩ ?_ ?_
  ·refine⟨[0,1,2,3,4],rfl,?_⟩
   (cbv;repeat' apply bq);all_goals try first|trivial|rfl|(rw[X.a];rfl)
  rintro⟨i,r⟩ ⟨P,hr⟩;simp only at P hr;cbv;refine⟨λh1=>?_,λh1=>?_⟩
  ·have h5:i<t.ar.length:=by obtain rfl:=X.a;simp only[b,SD,dL]at h1;omega
   have Q:=gT X.a O h5;have z:A.idx (bk i) (A.len R):=by rw[X.a,O];exact cY h5
   have q:A.inr .i64 (A.add (bk i) 1):=by rw[X.a];exact fm h5 (by omega)
   cbv;repeat' (first|apply bq|exactλ(_:FF)=>by kernel_rfl|(intro J;cbv)|apply bE)
   any_goals exact z
   refine X.call (ad _ (bu h5) (qd H _ (bu h5)) Q λE e1 e2 e3 F he=>?_);obtain⟨n,w,u,p,o⟩:=he;have v:A.gh (A.add (A.len r) (A.len (A.lit [[.int E,.str e1,.str e2,e3,F]]))) 4294967296:=by rw[X.a,hr];simp only[SD,dL,bL];omega
   have V:A.app r (A.lit [[.int E,.str e1,.str e2,e3,F]])=bA cq ((t.ar.take (i+1)).map (Ty.sub ns ts)):=by rw[n,w,u,p,o,X.a,hr,map_take h5,<-dk];exact cB (k:=[t.ar[i].sub ns ts])
   cbv;repeat' (first|apply bq|exactλ(_:FF)=>by kernel_rfl|(intro J;cbv)|apply bE)
   any_goals exact v
   any_goals exact q
   refine⟨(i+1,_),⟨?_,V⟩,?_,[0,1,2,3,4],rfl,?_⟩
   ·simp only;omega
   ·simp only;omega
   (cbv;repeat' apply bq);all_goals try first|trivial|rfl|(rw[X.a];rfl)
  have h5:i=g:=by obtain rfl:=X.a;simp only[b,SD,dL]at h1;omega
  subst h5;rw[N,bD]at hr;cbv
  refine X.j0 (λ(y:Nat×D)=>⟨[(10,.int .i64 y.1),(1,.lst 9 dn),(2,.lst 29 W),(3,.box 0 0),(6,.box 1 0),(8,.box 4 0)],[.box [.int .i64 I,.str c1,.str c2,.lst 29 R,.lst 57 m],.box [.undef,.undef,.undef,.undef,.undef],.row 29 r true,.row 57 y.2 true,.box [.int .i64 I,.str c1,.str c2,.row 29 2,.row 57 3]]⟩)
   (λy=>y.1<=j/\y.2=bA eZ ((t.fl.take y.1).map (Fe.sub ns ts))) (λy=>j-y.1) (0,.list []) ⟨bB _,rfl⟩ ?_ ?_
  ·refine⟨[0,1,2,3,4],rfl,?_⟩
   (cbv;repeat' apply bq);all_goals try first|trivial|rfl|(rw[X.a];rfl)
  rintro⟨i,r2⟩ ⟨P,f⟩;simp only at P f;cbv;refine⟨λh1=>?_,λh1=>?_⟩
  ·have h5:i<t.fl.length:=by obtain rfl:=X.a;simp only[c,SD,dL]at h1;omega
   have Q:=jS X.a B h5;have T:=zK X.a B h5;have z:A.idx (bk i) (A.len m):=by rw[X.a,B];exact cY h5
   have q:A.inr .i64 (A.add (bk i) 1):=by rw[X.a];exact fm h5 (by omega)
   cbv;repeat' (first|apply bq|exactλ(_:FF)=>by kernel_rfl|(intro J;cbv)|apply bE)
   any_goals exact z
   refine X.call (ac _ (bu h5) (sB H _ (bu h5)) Q λE e1 e2 e3 F he=>?_);obtain⟨n,w,u,p,o⟩:=he;have v:A.gh (A.add (A.len r2) (A.len (A.lit [[.str (A.bH (A.cell m (bk i) 0)),.int E,.str e1,.str e2,e3,F,.bool (A.asBool (A.cell m (bk i) 6))]]))) 4294967296:=by rw[X.a,f];simp only[SD,dL,bL];omega
   have V:A.app r2 (A.lit [[.str (A.bH (A.cell m (bk i) 0)),.int E,.str e1,.str e2,e3,F,.bool (A.asBool (A.cell m (bk i) 6))]])=bA eZ ((t.fl.take (i+1)).map (Fe.sub ns ts)):=by
    rw[n,w,u,p,o,T.1,T.2,X.a,f,map_take h5];refine iu ?_ (cB (k:=[Fe.sub ns ts t.fl[i]]))
    congr 1
    refine Q5 ?_;rw[ku,Fe.sub_eq];rfl
   cbv;repeat' (first|apply bq|exactλ(_:FF)=>by kernel_rfl|(intro J;cbv)|apply bE)
   any_goals exact v
   any_goals exact q
   refine⟨(i+1,_),⟨?_,V⟩,?_,[0,1,2,3,4],rfl,?_⟩
   ·simp only;omega
   ·simp only;omega
   (cbv;repeat' apply bq);all_goals try first|trivial|rfl|(rw[X.a];rfl)
  have h5:i=j:=by obtain rfl:=X.a;simp only[c,SD,dL]at h1;omega
  subst h5;rw[M,bD]at f;cbv;refine h _ _ _ _ _ ?_;rw[jD U];exact⟨t0,t1,t2,hr,f⟩
end Go.VC.cG
namespace Go.VC
inductive End where|nf|loop|uF (m n:S) (x:TE)|val (m n:S) (x:VE)
def gg(env:List IF):Nat->S->S->End
 |0,_,_=>.loop
 |k+1,m,n=>match iV env m n with
  | .none=>.nf
  | .Az=>.nf
  | .uF x=>.uF m n x
  | .val x=>.val m n x
  | .SO x=>gg env k x.module x.target
def di(env:List IF)(m n:S):TE×S×Int:=match gg env 65 m n with
 | .uF m' _ x=>(x,m',0)
 | .val _ _ _=>(TE.zero,[],6)
 | .nf=>(TE.zero,[],6)
 | .loop=>(TE.zero,[],14)
def ji(env:List IF)(m n:S):VE×S×Int:=match gg env 65 m n with
 | .uF _ _ _=>(VE.zero,[],6)
 | .val m' _ x=>(x,m',0)
 | .nf=>(VE.zero,[],6)
 | .loop=>(VE.zero,[],14)
def lJ(env:List IF)(m n:S):End:=gg env 65 m n
end Go.VC
namespace Go.VC.cG
open Go Go.VC Go.Proofs
section
variable {env:List IF}{d:D}{K:PV->List Ob->Prop}
def Su{m n:S}(E:d=bA dC env)(hl:eH env)
 (h0:lJ env m n= .nf->K (.tup [uh [] [] .nilp .nilp .nilp,.int .i64 6]) [])
 (g:lJ env m n= .loop->K (.tup [uh [] [] .nilp .nilp .nilp,.int .i64 14]) [])
 (G:∀m' n' x a c1 c2 h o j l u r s f c,lJ env m n= .uF m' n' x->x.ok->o4 x a c1 c2 h o j l u r s f c->K (.tup [uh m' n' (.cP [.str a,.lst 73 c1,.int .i64 c2,.str h,.str o,.lst 29 j,.lst 57 l,.int .i64 u,.str r,.str s,.lst 29 f,.lst 57 c] 0) .nilp .nilp,.int .i64 0]) [])
 (M:∀m' n' x a c1 c2 h o j l,lJ env m n= .val m' n' x->x.ok->uD x a c1 c2 h o j l->K (.tup [uh m' n' .nilp (.cP [.str a,.lst 73 c1,.int .i64 c2,.str h,.str o,.lst 29 j,.lst 57 l] 0) .nilp,.int .i64 0]) []):
 FT 152 [] [.lst 97 d,.str m,.str n] K:=by
 refine en XB Tryz.func152 λA C L X=>?_;cbv;refine lP X (λy=>y.1<=65/\gg env (65-y.1) y.2.1 y.2.2=lJ env m n) (λy=>65-y.1) (0,m,n) ⟨bB _,rfl⟩ [0] (λ(y:Nat×S×S)=>⟨[(10,.int .i64 y.1),(0,.lst 97 d),(1,.str y.2.1),(2,.str y.2.2),(6,.box 0 0)],[.box [.undef,.undef,.undef,.undef,.undef]]⟩) ?_;rintro⟨i,m',n'⟩ ⟨H,he⟩;simp only at H he;cbv;constructor<;>intro h1
 ·have h5:i<65:=by obtain rfl:=X.a;simp only[SD]at h1;omega
  obtain⟨k,hk⟩:∃k,65-i=k+1:=⟨64-i,yO⟩;have t:65-(i+1)=k:=yO;rw[hk]at he;simp only[gg]at he;have v:=jX X.a h5;cbv;refine X.call (Y9 E hl ?_ ?_ ?_ ?_)
  ·intro e;rw[e]at he;have q:=h0 he.symm;cbv;repeat' (first|apply bq|exact zf|(intro J;cbv)|apply bE)
   ·exact q
   ·obtain rfl:=X.a;cases J
  ·intro x a c1 c2 h o j l u r s f c e z hc;rw[e]at he;have q:=G _ _ _ _ _ _ _ _ _ _ _ _ _ _ _ he.symm z hc;cbv;repeat' (first|apply bq|exact zf|(intro J;cbv)|apply bE)
   ·obtain rfl:=X.a;cases J
   ·exact q
  ·intro x a c1 c2 h o j l e z hc;rw[e]at he;have q:=M _ _ _ _ _ _ _ _ _ _ he.symm z hc;cbv;repeat' (first|apply bq|exact zf|(intro J;cbv)|apply bE)
   ·obtain rfl:=X.a;cases J
   ·exact q
  ·intro x a c1 c2 b e hc
   have I:b=false->K (.tup [uh [] [] .nilp .nilp .nilp,.int .i64 6]) []:=by
    intro p;rcases e with⟨e,e2⟩|⟨e,e2⟩
    ·rw[e2]at p;cases p
    ·rw[e]at he;exact h0 he.symm
   cbv;repeat' (first|apply bq|exact zf|(intro J;cbv)|apply bE)
   ·exact I (by obtain rfl:=X.a;simpa only[SD]using J)
   ·exact v
   ·have p:b=true:=by rename_i h3;obtain rfl:=X.a;simpa only[SD]using h3
    rcases e with⟨e,e2⟩|⟨e,e2⟩
    ·rw[e]at he;simp only at he;refine⟨(i+1,x.module,x.target),⟨yP,by simp only[t];exact he⟩,yP,[0],rfl,?_⟩;obtain⟨F,B,w⟩:=hc;rw[<- B,<-w];exact yc
    ·rw[e2]at p;cases p
 ·have h5:i=65:=by obtain rfl:=X.a;simp only[SD]at h1;omega
  subst h5;have q:=g he.symm;cbv;exact q
def Vq{m n:S}(b:d=bA dC env)(hl:eH env)
 (h:∀r0 a r2,(r0,a,r2)=(match lJ env m n with| .nf=>([],[],6)| .loop=>([],[],14)| .uF m' n' _=>(m',n',0)| .val m' n' _=>(m',n',0):S×S×Int)->K (.tup [.str r0,.str a,.int .i64 r2]) []):
 FT 86 [] [.lst 97 d,.str m,.str n] K:=by
 refine en g86 Tryz.func86 λA C L X=>?_;cbv;refine X.call (Su b hl ?_ ?_ ?_ ?_)
 ·intro e;rw[e]at h;have q:=h _ _ _ rfl;cbv;repeat' (first|apply bq|exact zf|(intro J;cbv)|apply bE)
  exact q
 ·intro e;rw[e]at h;have q:=h _ _ _ rfl;cbv;repeat' (first|apply bq|exact zf|(intro J;cbv)|apply bE)
  exact q
 ·intro m' n' x l c1 c2 g k i j r s p c f e o hc;rw[e]at h;have q:=h _ _ _ rfl;cbv;repeat' (first|apply bq|exact zf|(intro J;cbv)|apply bE)
  exact q
 ·intro m' n' x l c1 c2 g k i j e o hc;rw[e]at h;have q:=h _ _ _ rfl;cbv;repeat' (first|apply bq|exact zf|(intro J;cbv)|apply bE)
  exact q
def SP{m n:S}(q:d=bA dC env)(hl:eH env)
 (h:∀c e1 e2 e3 l f j g k i b a o r2,o4 (di env m n).1 c e1 e2 e3 l f j g k i b a->o=(di env m n).2.1->r2=(di env m n).2.2->K (.tup [tn c e1 e2 e3 l f j g k i b a,.str o,.int .i64 r2]) []):
 FT 84 [] [.lst 97 d,.str m,.str n] K:=by
 refine en g84 Tryz.func84 λA C L X=>?_;cbv;refine X.call (Su q hl ?_ ?_ ?_ ?_)
 ·intro e;have hT:di env m n=(TE.zero,[],6):=by unfold di;rw[show gg env 65 m n=lJ env m n from rfl,e]
  rw[hT]at h;cbv;repeat' (first|apply bq|exact zf|(intro J;cbv)|apply bE)
  all_goals first
   |exact h _ _ _ _ _ _ _ _ _ _ _ _ _ _ ⟨rfl,rfl,⟨rfl,rfl,rfl,rfl,rfl⟩,rfl,rfl,rfl,rfl,rfl⟩ rfl rfl
   |(exfalso;obtain rfl:=X.a;simp only[SD]at *;omega)
   |(exfalso;obtain rfl:=X.a;simp[gq,fA,dL]at *;done)
   |(exfalso;obtain rfl:=X.a;cases J)
 ·intro e;have hT:di env m n=(TE.zero,[],14):=by unfold di;rw[show gg env 65 m n=lJ env m n from rfl,e]
  rw[hT]at h;cbv;repeat' (first|apply bq|exact zf|(intro J;cbv)|apply bE)
  all_goals first
   |exact h _ _ _ _ _ _ _ _ _ _ _ _ _ _ ⟨rfl,rfl,⟨rfl,rfl,rfl,rfl,rfl⟩,rfl,rfl,rfl,rfl,rfl⟩ rfl rfl
   |(exfalso;obtain rfl:=X.a;simp only[SD]at *;omega)
   |(exfalso;obtain rfl:=X.a;simp[gq,fA,dL]at *;done)
   |(exfalso;obtain rfl:=X.a;cases J)
 ·intro m' n' x y c1 c2 t w u v F B E s r e p hc;have hT:di env m n=(x,m',0):=by unfold di;rw[show gg env 65 m n=lJ env m n from rfl,e]
  rw[hT]at h;cbv;repeat' (first|apply bq|exact zf|(intro J;cbv)|apply bE)
  all_goals first
   |(exfalso;obtain rfl:=X.a;simp[gq,fA,dL]at *;done)
   |refine X.cut (λ(z:S×D×Int×S×S×D×D×Int×S×S×D×D)=>⟨[(6,.box 0 0),(7,.str m'),(8,.int .i64 0)],[.box [.str z.1,.lst 73 z.2.1,.int .i64 z.2.2.1,.str z.2.2.2.1,.str z.2.2.2.2.1,.lst 29 z.2.2.2.2.2.1,.lst 57 z.2.2.2.2.2.2.1,.int .i64 z.2.2.2.2.2.2.2.1,.str z.2.2.2.2.2.2.2.2.1,.str z.2.2.2.2.2.2.2.2.2.1,.lst 29 z.2.2.2.2.2.2.2.2.2.2.1,.lst 57 z.2.2.2.2.2.2.2.2.2.2.2]]⟩) (λz=>o4 x z.1 z.2.1 z.2.2.1 z.2.2.2.1 z.2.2.2.2.1 z.2.2.2.2.2.1 z.2.2.2.2.2.2.1 z.2.2.2.2.2.2.2.1 z.2.2.2.2.2.2.2.2.1 z.2.2.2.2.2.2.2.2.2.1 z.2.2.2.2.2.2.2.2.2.2.1 z.2.2.2.2.2.2.2.2.2.2.2) ?_ ?_
  ·cbv;repeat' (first|apply bq|exact zf|(intro J;cbv)|apply bE|(refine X.call (VX p hc λc e1 e2 e3 l f j g k i b a he=>?_);cbv))
   all_goals (refine⟨(c,e1,e2,e3,l,f,j,g,k,i,b,a),he,[0],rfl,?_⟩;exact yc)
  ·rintro⟨c,e1,e2,e3,l,f,j,g,k,i,b,a⟩ he;simp only at he;cbv;exact h _ _ _ _ _ _ _ _ _ _ _ _ _ _ he rfl rfl
  all_goals first
   |(exfalso;obtain rfl:=X.a;simp only[SD]at *;omega)
   |(exfalso;obtain rfl:=X.a;simp[gq,fA,dL]at *;done)
   |(exfalso;obtain rfl:=X.a;cases J)
 ·intro m' n' x y c1 c2 t w u v e p hc;have hT:di env m n=(TE.zero,[],6):=by unfold di;rw[show gg env 65 m n=lJ env m n from rfl,e]
  rw[hT]at h;cbv;repeat' (first|apply bq|exact zf|(intro J;cbv)|apply bE)
  all_goals first
   |exact h _ _ _ _ _ _ _ _ _ _ _ _ _ _ ⟨rfl,rfl,⟨rfl,rfl,rfl,rfl,rfl⟩,rfl,rfl,rfl,rfl,rfl⟩ rfl rfl
   |(exfalso;obtain rfl:=X.a;simp only[SD]at *;omega)
   |(exfalso;obtain rfl:=X.a;simp[gq,fA,dL]at *;done)
   |(exfalso;obtain rfl:=X.a;cases J)
def F82{m n:S}(j:d=bA dC env)(hl:eH env)
 (h:∀a e1 e2 e3 f b c g r2,uD (ji env m n).1 a e1 e2 e3 f b c->g=(ji env m n).2.1->r2=(ji env m n).2.2->K (.tup [Bs a e1 e2 e3 f b c,.str g,.int .i64 r2]) []):
 FT 82 [] [.lst 97 d,.str m,.str n] K:=by
 refine en g82 Tryz.func82 λA C L X=>?_;cbv;refine X.call (Su j hl ?_ ?_ ?_ ?_)
 ·intro e;have hT:ji env m n=(VE.zero,[],6):=by unfold ji;rw[show gg env 65 m n=lJ env m n from rfl,e]
  rw[hT]at h;cbv;repeat' (first|apply bq|exact zf|(intro J;cbv)|apply bE)
  all_goals first
   |exact h _ _ _ _ _ _ _ _ _ ⟨rfl,rfl,rfl,rfl,rfl,rfl,rfl⟩ rfl rfl
   |(exfalso;obtain rfl:=X.a;simp only[SD]at *;omega)
   |(exfalso;obtain rfl:=X.a;simp[gq,fA,dL]at *;done)
   |(exfalso;obtain rfl:=X.a;cases J)
 ·intro e;have hT:ji env m n=(VE.zero,[],14):=by unfold ji;rw[show gg env 65 m n=lJ env m n from rfl,e]
  rw[hT]at h;cbv;repeat' (first|apply bq|exact zf|(intro J;cbv)|apply bE)
  all_goals first
   |exact h _ _ _ _ _ _ _ _ _ ⟨rfl,rfl,rfl,rfl,rfl,rfl,rfl⟩ rfl rfl
   |(exfalso;obtain rfl:=X.a;simp only[SD]at *;omega)
   |(exfalso;obtain rfl:=X.a;simp[gq,fA,dL]at *;done)
   |(exfalso;obtain rfl:=X.a;cases J)
 ·intro m' n' x s c1 c2 o r p q u v t k l e i hc;have hT:ji env m n=(VE.zero,[],6):=by unfold ji;rw[show gg env 65 m n=lJ env m n from rfl,e]
  rw[hT]at h;cbv;repeat' (first|apply bq|exact zf|(intro J;cbv)|apply bE)
  all_goals first
   |exact h _ _ _ _ _ _ _ _ _ ⟨rfl,rfl,rfl,rfl,rfl,rfl,rfl⟩ rfl rfl
   |(exfalso;obtain rfl:=X.a;simp only[SD]at *;omega)
   |(exfalso;obtain rfl:=X.a;simp[gq,fA,dL]at *;done)
   |(exfalso;obtain rfl:=X.a;cases J)
 ·intro m' n' x s c1 c2 o r p q e i hc;have hT:ji env m n=(x,m',0):=by unfold ji;rw[show gg env 65 m n=lJ env m n from rfl,e]
  rw[hT]at h;cbv;repeat' (first|apply bq|exact zf|(intro J;cbv)|apply bE)
  all_goals first
   |(exfalso;obtain rfl:=X.a;simp[gq,fA,dL]at *;done)
   |refine X.cut (λ(z:S×D×Int×S×S×D×D)=>⟨[(6,.box 0 0),(7,.str m'),(8,.int .i64 0)],[.box [.str z.1,.lst 73 z.2.1,.int .i64 z.2.2.1,.str z.2.2.2.1,.str z.2.2.2.2.1,.lst 29 z.2.2.2.2.2.1,.lst 57 z.2.2.2.2.2.2]]⟩) (λz=>uD x z.1 z.2.1 z.2.2.1 z.2.2.2.1 z.2.2.2.2.1 z.2.2.2.2.2.1 z.2.2.2.2.2.2) ?_ ?_
  ·cbv;repeat' (first|apply bq|exact zf|(intro J;cbv)|apply bE|(refine X.call (VW i hc λa e1 e2 e3 f b c he=>?_);cbv))
   all_goals (refine⟨(a,e1,e2,e3,f,b,c),he,[0],rfl,?_⟩;exact yc)
  ·rintro⟨a,e1,e2,e3,f,b,c⟩ he;simp only at he;cbv;exact h _ _ _ _ _ _ _ _ _ he rfl rfl
  all_goals first
   |(exfalso;obtain rfl:=X.a;simp only[SD]at *;omega)
   |(exfalso;obtain rfl:=X.a;simp[gq,fA,dL]at *;done)
   |(exfalso;obtain rfl:=X.a;cases J)
end
end Go.VC.cG
namespace Go.VC
section
variable {n:S}{env:List IF}
def cQ(env:List IF)(t:Ty):Ty×Ty×Int:=
 if t.k≠10 then(Ty.zero,Ty.zero,1)else
 if(di env t.m t.n).2.2≠0 then(Ty.zero,Ty.zero,(di env t.m t.n).2.2)else
 if t.ar.length≠(di env t.m t.n).1.params.length then(Ty.zero,Ty.zero,11)else
 ((di env t.m t.n).1.lower.sub ((di env t.m t.n).1.params.map (·.name)) t.ar,(di env t.m t.n).1.upper.sub ((di env t.m t.n).1.params.map (·.name)) t.ar,0)
def oc:Ty.le 4294967295 Ty.zero:=.mk _ (by simp[Ty.zero,Ty.ar]) (by simp[Ty.zero,Ty.fl]) (by simp[Ty.zero,Ty.ar]) (by simp[Ty.zero,Ty.fl])
def od:TE.zero.ok:=⟨by simp[TE.zero],by simp[TE.zero],oc,oc⟩
def Lf{i:IF}(h:i.ok):(∀x,kl i n= .uF x->x.ok)/\(∀x,kl i n= .val x->x.ok):=by
 unfold kl;constructor<;>intro x
 ·split
  ·rename_i y a;intro e;cases e;exact h.t _ (oI a)
  ·split
   ·intro e;cases e
   ·split<;>(intro e;cases e)
 ·split
  ·intro e;cases e
  ·split
   ·rename_i y a;intro e;cases e;exact h.v _ (oI a)
   ·split<;>(intro e;cases e)
def HY(h:eH env):∀(k:Nat)(m n:S),(∀m' n' x,gg env k m n= .uF m' n' x->x.ok)/\(∀m' n' x,gg env k m n= .val m' n' x->x.ok)
 |0,m,n=>by simp[gg]
 |k+1,m,n=>by
  have hk:=λm n=>HY h k m n;simp only[gg];unfold iV;cases hf:ik env m with
  |none=>simp
  |some i=>
   have:=Lf (oJ h hf) (n:=n);simp only;cases hl:kl i n with
   |none=>simp
   |Az=>simp
   |uF x=>refine⟨λm' n' y e=>?_,λ_ _ _ e=>yC e⟩;cases e;exact this.1 x hl
   |val x=>refine⟨λ_ _ _ e=>(yC e),λm' n' y e=>?_⟩;cases e;exact this.2 x hl
   |SO x=>exact hk _ _
def CS(h:eH env){m:S}:(di env m n).1.ok:=by
 have:=HY h 65 m n;unfold di;cases he:gg env 65 m n with
 |uF m' n' x=>exact this.1 _ _ _ he
 |val m' n' x=>exact od
 |nf=>exact od
 |loop=>exact od
end
end Go.VC
namespace Go.VC.cG
open Go Go.VC Go.Proofs
end Go.VC.cG
namespace Go.VC
def ff(env:List IF)(m n:S):S×S×Int:=match lJ env m n with| .nf=>([],[],6)| .loop=>([],[],14)| .uF m' n' _=>(m',n',0)| .val m' n' _=>(m',n',0)
def F5{i:IF}{n:S}:(∀x,kl i n= .uF x->i.types.find? (λy=>y.name==n)=some x)/\(∀x,kl i n= .val x->i.types.find? (λy=>y.name==n)=none/\i.values.find? (λy=>y.name==n)=some x):=by
 unfold kl;cases h1:i.types.find? (λy=>y.name==n)with
 |some y=>exact⟨λx e=>by cases e;rfl,λx e=>yC e⟩
 |none=>
  cases J:i.values.find? (λy=>y.name==n)with
  |some y=>exact⟨λx e=>(yC e),λx e=>by cases e;exact⟨rfl,rfl⟩⟩
  |none=>
   simp only;cases i.aliases.find? (λy=>y.name==n)with
   |some y=>exact⟨λx e=>(yC e),λx e=>(yC e)⟩
   |none=>exact⟨λx e=>(yC e),λx e=>(yC e)⟩
def vn{env:List IF}:∀(k:Nat)(m n:S),(∀m' n' x,gg env k m n= .uF m' n' x->∃i,ik env m'=some i/\i.types.find? (λy=>y.name==n')=some x)/\(∀m' n' x,gg env k m n= .val m' n' x->∃i,ik env m'=some i/\i.types.find? (λy=>y.name==n')=none/\i.values.find? (λy=>y.name==n')=some x)
 |0,m,n=>by simp[gg]
 |k+1,m,n=>by
  have hk:=λm n=>vn (env:=env) k m n;simp only[gg];unfold iV;cases hf:ik env m with
  |none=>simp
  |some i=>
   have hs:=F5 (i:=i) (n:=n);simp only;cases hl:kl i n with
   |none=>simp
   |Az=>simp
   |uF x=>refine⟨λm' n' y e=>?_,λ_ _ _ e=>(yC e)⟩;cases e;exact⟨i,hf,hs.1 _ hl⟩
   |val x=>refine⟨λ_ _ _ e=>(yC e),λm' n' y e=>?_⟩;cases e;exact⟨i,hf,hs.2 _ hl⟩
   |SO x=>exact hk _ _
end Go.VC
namespace Go.VC.cG
open Go Go.VC Go.Proofs
section
variable {env:List IF}{d:D}{K:PV->List Ob->Prop}{m n:S}
def Zd(v:d=bA dC env)(hl:eH env)
 (h:∀r0 t r2,(r0,t,r2)=ff env m n->K (.tup [.str r0,.str t,.int .i64 r2]) []):
 FT 182 [] [.lst 97 d,.str m,.str n] K:=by
 unfold ff at h;refine en Xw Tryz.func182 λA C L X=>?_;cbv;refine lp X (λy=>y.1<=65/\gg env (65-y.1) y.2.1 y.2.2=lJ env m n) (λy=>65-y.1) (0,m,n) ⟨bB _,rfl⟩ (λ(y:Nat×S×S)=>⟨[(9,.int .i64 y.1),(0,.lst 97 d),(1,.str y.2.1),(2,.str y.2.2)],[]⟩) ?_;rintro⟨i,m',n'⟩ ⟨F,he⟩;simp only at F he;cbv;constructor<;>intro h1
 ·have h5:i<65:=by obtain rfl:=X.a;simp only[SD]at h1;omega
  obtain⟨k,hk⟩:∃k,65-i=k+1:=⟨64-i,yO⟩;have p:65-(i+1)=k:=yO;rw[hk]at he;simp only[gg]at he;have r:=jX X.a h5;cbv;refine X.call (Sr v hl.1 rfl λG e1 e2 e3 e4 b l hb=>?_);cases hf:ik env m' with
  |none=>
   rw[hf]at hb;obtain rfl:b=false:=hb;rw[show iV env m' n'= .none by rw[iV,hf]]at he;rw[<- he]at h;have q:=h _ _ _ rfl;cbv;repeat' (first|apply bq|exact zf|(intro J;cbv)|apply bE)
   ·exact q
   ·obtain rfl:=X.a;cases J
  |some x=>
   rw[hf]at hb l;simp only[eR]at l;obtain rfl:b=true:=hb;have ek:=oJ hl hf;have z:iV env m' n'=kl x n':=by rw[iV,hf]
   rw[z]at he;refine p2 (λJ=>?_) (λJ=>?_)
   ·obtain rfl:=X.a;cases J
   clear J;refine X.call (Sq l ek.nt rfl λc0 c1 c2 U c4 V c6 N H I B w b1 hc g=>?_);cbv;refine X.call (Y4 l ek.nv rfl λO R M T P Q W b2 hu f=>?_);cbv;refine X.call (Y3 l ek.na rfl λa0 a1 a2 u ha j=>?_);cases a:x.types.find? (λy=>y.name==n')with
   |some y=>
    rw[a]at g;obtain rfl:b1=true:=g;rw[kl,a]at he;rw[<- he]at h;have q:=h _ _ _ rfl;cbv;repeat' (first|apply bq|exact zf|(intro J;cbv)|apply bE)
    all_goals first
     |exact q
     |(exfalso;obtain rfl:=X.a;simp[gq,fA,dL]at *;done)
   |none=>
    rw[a]at g;obtain rfl:b1=false:=g;cases c:x.values.find? (λy=>y.name==n')with
    |some y=>
     rw[c]at f;obtain rfl:b2=true:=f;rw[kl,a]at he;simp only[c]at he;rw[<- he]at h;have q:=h _ _ _ rfl;cbv;repeat' (first|apply bq|exact zf|(intro J;cbv)|apply bE)
     all_goals first
      |exact q
      |(exfalso;obtain rfl:=X.a;simp[gq,fA,dL]at *;done)
    |none=>
     rw[c]at f;obtain rfl:b2=false:=f;cases e:x.aliases.find? (λy=>y.name==n')with
     |none=>
      rw[e]at j;obtain rfl:u=false:=j;rw[kl,a]at he;simp only[c,e]at he;rw[<- he]at h;have q:=h _ _ _ rfl;cbv;repeat' (first|apply bq|exact zf|(intro J;cbv)|apply bE)
      all_goals first
       |exact q
       |(exfalso;obtain rfl:=X.a;simp[gq,fA,dL]at *;done)
     |some y=>
      rw[e]at j ha;obtain rfl:u=true:=j;rw[kl,a]at he;simp only[c,e]at he;simp only[eR]at ha;obtain⟨E,o,s⟩:=ha;cbv;repeat' (first|apply bq|exact zf|(intro J;cbv)|apply bE)
      all_goals first
       |exact r
       |(exfalso;obtain rfl:=X.a;simp[gq,fA,dL]at *;done)
       |(refine⟨(i+1,y.module,y.target),⟨?_,?_⟩,?_,?_⟩)
      ·simp only;omega
      ·simp only[p];exact he
      ·simp only;omega
      ·rw[<- o,<-s];exact yc
 ·have h5:i=65:=by obtain rfl:=X.a;simp only[SD]at h1;omega
  subst h5;rw[<- he]at h;have q:=h _ _ _ rfl;cbv;exact q
def Zy(s:d=bA dC env)(hl:eH env)
 (h:∀p e1 e2 e3 r y E z F B k j q r2,o4 (di env m n).1 p e1 e2 e3 r y E z F B k j->q=(di env m n).2.1->r2=(di env m n).2.2->K (.tup [tn p e1 e2 e3 r y E z F B k j,.str q,.int .i64 r2]) []):
 FT 125 [] [.lst 97 d,.str m,.str n] K:=by
 have o:=vn (env:=env) 65 m n;refine en (cf 45) Tryz.func125 λA C L X=>?_;cbv;refine X.call (Zd s hl λr0 q r2 hr=>?_);unfold ff at hr;have bad:∀(e:Int),e≠0->di env m n=(TE.zero,[],e)->(r0,q,r2)=(([],[],e):S×S×Int)->A.eq r2 0=false/\K (.tup [tn [] (.list []) 0 [] [] (.list []) (.list []) 0 [] [] (.list []) (.list []),.str [],.int .i64 r2]) []:=by intro e h0 hT he;simp only[gb]at he;obtain⟨rfl,rfl,rfl⟩:=he;rw[hT]at h;refine⟨?_,h _ _ _ _ _ _ _ _ _ _ _ _ _ _ ⟨rfl,rfl,⟨rfl,rfl,rfl,rfl,rfl⟩,rfl,rfl,rfl,rfl,rfl⟩ rfl rfl⟩;rw[X.a,gq];simpa using h0
 cases he:lJ env m n with
 |nf=>
  rw[he]at hr;obtain⟨g1,g2⟩:=bad 6 yS (by unfold di;rw[show gg env 65 m n=lJ env m n from rfl,he]) hr;cbv;repeat' (first|apply bq|exact zf|(intro J;cbv)|apply bE)
  all_goals first
   |exact g2
   |(exfalso;rw[g1]at J;obtain rfl:=X.a;simp[gq,fA,dL]at *;done)
 |loop=>
  rw[he]at hr;obtain⟨g1,g2⟩:=bad 14 yS (by unfold di;rw[show gg env 65 m n=lJ env m n from rfl,he]) hr;cbv;repeat' (first|apply bq|exact zf|(intro J;cbv)|apply bE)
  all_goals first
   |exact g2
   |(exfalso;rw[g1]at J;obtain rfl:=X.a;simp[gq,fA,dL]at *;done)
 |uF m' n' x=>
  rw[he]at hr;simp only[gb]at hr;obtain⟨f,g,t⟩:=hr;obtain⟨i,l,w⟩:=o.1 m' n' x he;have hT:di env m n=(x,m',0):=by unfold di;rw[show gg env 65 m n=lJ env m n from rfl,he]
  rw[hT,<-f]at h;clear bad;refine p2 (λJ=>?_) (λJ=>?_)
  ·exfalso;obtain rfl:=X.a;simp only[SD]at J;omega
  refine X.call (Sr s hl.1 f λp e1 e2 e3 r b a hb=>?_);rw[l]at a hb;simp only[eR]at a;cbv;refine X.call (Sq a (oJ hl l).nt g λQ c1 c2 M P N O I G H v u b1 hc c=>?_);rw[w]at hc c;simp only[eR]at hc;obtain rfl:b1=true:=c;clear hb;refine p2 (λJ=>?_) (λJ=>?_)
  ·exfalso;obtain rfl:=X.a;simp[fA]at*
  exact h _ _ _ _ _ _ _ _ _ _ _ _ _ _ hc rfl rfl
 |val m' n' x=>
  rw[he]at hr;simp only[gb]at hr;obtain⟨f,g,t⟩:=hr;obtain⟨i,l,w,R⟩:=o.2 m' n' x he;have hT:di env m n=(TE.zero,[],6):=by unfold di;rw[show gg env 65 m n=lJ env m n from rfl,he]
  rw[hT]at h;clear bad;refine p2 (λJ=>?_) (λJ=>?_)
  ·exfalso;obtain rfl:=X.a;simp only[SD]at J;omega
  refine X.call (Sr s hl.1 f λp e1 e2 e3 r b a hb=>?_);rw[l]at a hb;simp only[eR]at a;cbv;refine X.call (Sq a (oJ hl l).nt g λQ c1 c2 M P N O I G H v u b1 hc c=>?_);rw[w]at hc c;obtain rfl:b1=false:=c;clear hb;refine p2 (λJ=>?_) (λJ=>?_)
  ·exact h _ _ _ _ _ _ _ _ _ _ _ _ _ _ ⟨rfl,rfl,⟨rfl,rfl,rfl,rfl,rfl⟩,rfl,rfl,rfl,rfl,rfl⟩ rfl rfl
  ·exfalso;obtain rfl:=X.a;simp[fA]at*
def F63{t:Ty}{E:Int}{c1 c2:S}{y B:D}(F:d=bA dC env)(hl:eH env)(v:Ty.le 4294967295 t)(I:cD t E c1 c2 y B)
 (h:∀k e1 e2 e3 u g0 g1 g2 g3 g4 r,cD (cQ env t).1 k e1 e2 e3 u->cD (cQ env t).2.1 g0 g1 g2 g3 g4->r=(cQ env t).2.2->K (.tup [dO k e1 e2 e3 u,dO g0 g1 g2 g3 g4,.int .i64 r]) []):
 FT 63 [] [.lst 97 d,dO E c1 c2 y B] K:=by
 obtain⟨O,P,G,c,Q⟩:=I;have i:=q9 v;have j:=CS hl (m:=t.m) (n:=t.n);unfold cQ at h;rw[<- O]at h;rw[<- P,<-G]at h j;obtain⟨R,z⟩:∃R,R=di env c1 c2:=⟨_,rfl⟩;rw[<- z]at h j;have e:=j.np;refine en g63 Tryz.func63 λA C L X=>?_;obtain⟨x,p,a⟩:=lenOf c;cbv;repeat' (first|apply bq|exact zf|(intro J;cbv)|apply bE)
 ·rw[if_pos (by obtain rfl:=X.a;simp only[SD]at J;exact J)]at h;exact h _ _ _ _ _ _ _ _ _ _ _ ⟨rfl,rfl,rfl,rfl,rfl⟩ ⟨rfl,rfl,rfl,rfl,rfl⟩ rfl
 rw[if_neg (by obtain rfl:=X.a;simp only[SD]at J;simp[J])]at h;clear J;refine X.call (Zy F hl λk e1 e2 e3 u U e6 W e8 e9 N H V r2 he q f=>?_);rw[<- z]at he q f;rw[<- f]at h;obtain⟨a0,a1,l,o⟩:=he;obtain⟨w,s,b⟩:=lenOf a1;cbv;repeat' (first|apply bq|exact zf|(intro J;cbv)|apply bE)
 ·rw[if_pos (by obtain rfl:=X.a;simp only[SD]at J;omega)]at h;exact h _ _ _ _ _ _ _ _ _ _ _ ⟨rfl,rfl,rfl,rfl,rfl⟩ ⟨rfl,rfl,rfl,rfl,rfl⟩ rfl
 ·rename_i g0;rw[if_neg (by obtain rfl:=X.a;simp only[SD,dL]at g0;simp[g0]),if_pos (by obtain rfl:=X.a;simp only[a,b,SD,dL]at J;omega)]at h;exact h _ _ _ _ _ _ _ _ _ _ _ ⟨rfl,rfl,rfl,rfl,rfl⟩ ⟨rfl,rfl,rfl,rfl,rfl⟩ rfl
 rename_i g0;have g:t.ar.length=R.1.params.length:=by obtain rfl:=X.a;simp only[a,b,SD,dL]at J;omega
 rw[if_neg (by obtain rfl:=X.a;simp only[SD,dL]at g0;simp[g0]),if_neg (by simp[g])]at h;clear g0 J;refine X.call (Zx a1 e λr hr=>?_);refine p1 ?_;refine X.call (V1 hr c (yU e) i _ j.lo l λg0 g1 g2 g3 g4 M=>?_);refine p1 ?_;refine X.call (V1 hr c (yU e) i _ j.up o λk0 T k2 k3 k4 hk=>?_);refine p1 ?_;exact h _ _ _ _ _ _ _ _ _ _ _ M hk rfl
end
end Go.VC.cG
namespace Go.VC
open Go Go.Proofs Go.Shelf
section
def RN.var{Pp:fE}{g:Nat×IntKind×List Int}(h:RN Pp g){w:World}(b:∀ad v,Pp ad v->pc w ad=some v):∃T f,w.heap[g.1]? =some (.cells (g.2.2.map (Value.int g.2.1)).toArray T f):=by
 have h0:=b _ _ h.1;cases a:w.heap[g.1]? with
 |none=>simp only[pc,a]at h0;cases h0
 |some x=>
  cases x with
  |cells c T f=>
   simp only[pc,a,if_true,cz,Value.int.injEq,true_and]at h0;have fh:c.size=g.2.2.length:=by exact_mod_cast h0
   refine⟨T,f,?_⟩
   congr 2
   apply PG
   ·simp[fh]
   ·intro i h1 J;have d:i<g.2.2.length:=yO;have h3:=b _ _ (h.2 i g.2.2[i] (bx d));rw[pd]at h3;simp only[World.cell?,a]at h3;simp only[nH,cv,if_false]at h3;rw[du h1]at h3;simp at h3;simp[h3]
  |_=>simp[pc,a]at h0
section
variable {P:Program}{tt:TypeId->Option TI}{f:FuncId}
def FC.grown{args:List PV}{K:PV->List Ob->Prop}(m:∀args w,(callFunc f args).run P w= .ok (.enter f args) w)
 (h:∀E Pp w vals,WR tt E Pp [] w->eJ tt E Pp vals args->Calls P f ⟨vals⟩ w λe w'=>(∃k os,w'=Go.Sort.grow (w.drewN k) os)/\∃v pv,e= .returned v/\VR tt E Pp v pv/\K pv []):FC P tt f [] args K:=by
 intro E Pp w vals c n;refine .inl ⟨m _ _,(h E Pp w vals c n).mono ?_⟩;rintro e w' ⟨⟨k,os,rfl⟩,v,pv,rfl,g,hk⟩;have a:∀b,b<w.heap.size->(Go.Sort.grow (w.drewN k) os).heap[b]? =w.heap[b]? :=λb hb=>by show (w.heap++os)[b]? =_;rw[gM hb]
 refine⟨v,E,Pp,[],pv,rfl,.refl _,λ_ _ h=>h,⟨c.len,λad u l=>?_,λi o d=>yE d,λi j oi oj ri rj b d=>yE d,c.gl⟩,g,hk,⟨rfl,rfl,rfl,?_,?_,λb hb _=>a b hb⟩,λ_ _ h=>.inl h,λi o ri b d=>yE d⟩
 ·rw[gF (a _ (xY (c.pi ad u l)))];exact c.pi ad u l
 ·show w.heap.size<=(w.heap++os).size;simp
 ·intro _;show w.drawn<=(w.drewN k).drawn;simp[World.drewN]
end
end
end Go.VC
namespace Go.VC.cG
open Go Go.VC Go.Proofs
section
variable {K:PV->List Ob->Prop}
def Wu{w:World}{Pp:fE}(h:MV tt Pp)(a:∀ad v,Pp ad v->pc w ad=some v):Lib.TabIs Tryz.prog w "internal/strconv.uint64pow10" .u64 Lib.pow10Tab:=by obtain⟨T,f,hc⟩:=(h.2 (0,.u64,Lib.pow10Tab) (by rw[show vh tt=[(0,.u64,Lib.pow10Tab)]by kernel_rfl];simp)).var a;have hz:Lib.pow10Tab=Lib.pow10Tab:=yD;rw[hz];show World.var? Tryz.prog w "internal/strconv.uint64pow10" =_;unfold World.var?;rw[show Tryz.prog.globalNamed "internal/strconv.uint64pow10" =some 0 by kernel_rfl];simp only[iy];rw[hc]
def EO{i:Int}(h0: -9223372036854775808<=i)(c:i<=9223372036854775807)(h:∀r:S,r=Lib.itoa i->K (.str r) []):FT 73 [] [.int .i64 i] K:=by
 refine FC.grown (enters_of Tryz.func73 (by kernel_rfl) rfl) λE Pp w vals b a=>?_;cases a with|cons _ _ _ _ h1 a=>
 cases a;cases h1;exact(Tryz.strconv_Itoa i h0 c w (Wu b.gl b.pi)).mono λe w' ⟨h1,J⟩=>⟨J,_,_,h1,.str _,h _ rfl⟩
def Sw{b:Bool}(h:∀r:S,r=Lib.formatBool b->K (.str r) []):FT 131 [] [.bool b] K:=by
 refine FC.plain (enters_of Tryz.func131 (by kernel_rfl) rfl) λE Pp w vals c a=>?_;cases a with|cons _ _ _ _ h1 a=>
 cases a;cases h1;exact(Tryz.strconv_FormatBool b w).mono λe w' ⟨h1,J⟩=>⟨J,_,_,h1,.str _,h _ rfl⟩
end
end Go.VC.cG
namespace Go.VC
open Go
section
variable {a b:Int}{c d:UInt8}
def Ry(l:S):Nat:=l.foldl (λa b=>10*a+(b.toNat-48)) 0
def nz(b:UInt8):Prop:=48<=b.toNat/\b.toNat<=57
def Eo{i:Nat}(h:i<10):nz (iN (48+i))/\(iN (48+i)).toNat-48=i:=by
 have:(iN (48+i)).toNat=48+i:=by simp[UInt8.toNat_ofNat'];omega
 unfold nz;rw[this];omega
def iM:∀(u:Nat),(∀b∈Lib.decDigits u,nz b)/\Ry (Lib.decDigits u)=u/\Lib.decDigits u≠[]:=by
 intro u;induction u using Cu with
 |_ u f=>
  rw[Lib.decDigits];split
  ·rename_i h;obtain⟨h1,J⟩:=Eo h;exact⟨λb hb=>by rw[df]at hb;subst hb;exact h1,by simp only[Ry,fB,CE,J];omega,yS⟩
  ·rename_i h;obtain⟨a,b,c⟩:=f (u/10) yO;obtain⟨h1,J⟩:=Eo (i:=u % 10) yO;refine⟨λx e=>?_,?_,yS⟩
   ·rcases bG.1 e with e|e
    ·exact a x e
    ·rw[df]at e;subst e;exact h1
   ·unfold Ry at b ⊢;rw[PD,b];simp only[fB,CE,J];omega
def sk{a b:Nat}(h:Lib.decDigits a=Lib.decDigits b):a=b:=by rw[<- (iM a).2.1,h,(iM b).2.1]
def isNum(b:UInt8):Prop:=b=45\/nz b
def yw(n:Int):∀b∈Lib.itoa n,isNum b:=by
 unfold Lib.itoa;split
 ·intro b hb;rcases bN.1 hb with rfl|hb
  ·exact .inl rfl
  ·exact .inr ((iM _).1 b hb)
 ·exactλb hb=>.inr ((iM _).1 b hb)
def Lt(h:Lib.itoa a=Lib.itoa b):a=b:=by
 have f:∀n l,Lib.decDigits n=45::l->False:=λn l e=>by have:=(iM n).1 45 (by rw[e];simp);obtain⟨h1,_⟩:=this;exact absurd h1 yD
 unfold Lib.itoa at h;split at h<;>split at h
 ·simp at h;have:=sk h;omega
 ·exact(f _ _ h.symm).elim
 ·exact(f _ _ h).elim
 ·have:=sk h;omega
def C5{p:UInt8->Prop}(hc:¬p c)(e:¬p d):∀{l k x y:S},(∀a∈l,p a)->(∀a∈k,p a)->l++c::x=k++d::y->l=k/\c=d/\x=y
 |[],[],x,y,_,_,h=>by simp at h;exact⟨rfl,h.1,h.2⟩
 |[],b::k,x,y,_,hk,h=>by simp at h;exact absurd (hk b yS) (h.1▸hc)
 |a::l,[],x,y,hl,_,h=>by simp at h;exact absurd (hl a yS) (h.1▸e)
 |a::l,b::k,x,y,hl,hk,h=>by simp at h;obtain⟨rfl,h⟩:=h;obtain⟨h1,J,h3⟩:=C5 hc e (λa ha=>hl a (by simp[ha])) (λa ha=>hk a (by simp[ha])) h;exact⟨by rw[h1],J,h3⟩
def wK(hc:¬isNum c)(e:¬isNum d){x y:S}(h:Lib.itoa a++c::x=Lib.itoa b++d::y):a=b/\c=d/\x=y:=by obtain⟨h1,J,h3⟩:=C5 hc e (yw a) (yw b) h;exact⟨Lt h1,J,h3⟩
end
def oe(n:Int):S:=Lib.itoa n++[32]
mutual
def Ty.wr:Ty->S| .mk k m n ar fl=>oe k++oe m.length++oe n.length++oe ar.length++oe fl.length++m++n++Ty.p9 ar++Ty.sv fl
def Fe.wr:Fe->S| .mk s t b=>Lib.itoa s.length++Lib.formatBool b++s++Ty.wr t
def Ty.p9:List Ty->S|[]=>[]|t::l=>Ty.wr t++Ty.p9 l
def Ty.sv:List Fe->S|[]=>[]|t::l=>Fe.wr t++Ty.sv l
end
def th{a b:Int}{x y:S}(h:oe a++x=oe b++y):a=b/\x=y:=by simp only[oe,bI,JK]at h;have:=wK (by unfold isNum nz;decide) (by unfold isNum nz;decide) h;exact⟨this.1,this.2.2⟩
mutual
def Bl:∀(t u:Ty){x y:S},t.wr++x=u.wr++y->t=u/\x=y
 | .mk k m n ar fl,.mk k' m' n' X4 XU,x,y,h=>by simp only[Ty.wr,bI]at h;obtain⟨h0,g0⟩:=th h;obtain⟨h1,g1⟩:=th g0;obtain⟨J,g2⟩:=th g1;obtain⟨h3,g3⟩:=th g2;obtain⟨h4,g4⟩:=th g3;obtain⟨h5,g5⟩:=rW g4 yO;obtain⟨h6,g6⟩:=rW g5 yO;obtain⟨h7,g7⟩:=GY ar X4 yO g6;obtain⟨h8,g8⟩:=G1 fl XU yO g7;subst h0 h5 h6 h7 h8;exact⟨rfl,g8⟩
def OL:∀(t u:Fe){x y:S},t.wr++x=u.wr++y->t=u/\x=y
 | .mk s t b,.mk s' t' b',x,y,h=>by
  simp only[Fe.wr,bI]at h
  have key:s.length=s'.length/\b=b'/\s++(t.wr++x)=s'++(t'.wr++y):=by
   cases b<;>cases b'<;>simp only[Lib.formatBool]at h<;>
    (obtain⟨e1,e2,e3⟩:=wK (by unfold isNum nz;decide) (by unfold isNum nz;decide) h)<;>
    first|(exact absurd e2 yD)|(refine⟨yO,rfl,?_⟩;simpa using e3)
  obtain⟨h1,J,h3⟩:=key;obtain⟨h4,h5⟩:=rW h3 h1;obtain⟨h6,h7⟩:=Bl t t' h5;subst J h4 h6;exact⟨rfl,h7⟩
def GY:∀(l k:List Ty){x y:S},l.length=k.length->Ty.p9 l++x=Ty.p9 k++y->l=k/\x=y
 |[],[],x,y,_,h=>⟨rfl,h⟩
 |t::l,u::k,x,y,hl,h=>by simp only[Ty.p9,bI]at h;obtain⟨h1,J⟩:=Bl t u h;obtain⟨h3,h4⟩:=GY l k (yU hl) J;subst h1 h3;exact⟨rfl,h4⟩
def G1:∀(l k:List Fe){x y:S},l.length=k.length->Ty.sv l++x=Ty.sv k++y->l=k/\x=y
 |[],[],x,y,_,h=>⟨rfl,h⟩
 |t::l,u::k,x,y,hl,h=>by simp only[Ty.sv,bI]at h;obtain⟨h1,J⟩:=OL t u h;obtain⟨h3,h4⟩:=G1 l k (yU hl) J;subst h1 h3;exact⟨rfl,h4⟩
end
def key_inj{s t s' t':Ty}(h:s.wr++t.wr=s'.wr++t'.wr):s=s'/\t=t':=by obtain⟨h1,J⟩:=Bl s s' h;obtain⟨h3,_⟩:=Bl t t' (x:=[]) (y:=[]) (yU J);exact⟨h1,h3⟩
end Go.VC
namespace Go.VC
open Classical
section
variable {α:Type}
abbrev Jm:=Ty×Ty
abbrev Mem:=List Jm×List Jm
def dD(l:List Fe)(s:S):Option Fe:=l.find? λf=>f.s==s
def jB(env:List IF)(ctx:List Pm)(t:Ty):Option Ty:=
 if t.k=10 then(if(cQ env t).2.2=0 then some (cQ env t).2.1 else none)else
 if t.k=9 then(ctx.find? λp=>p.name==t.n).map Pm.bound else none
def xR(s t:Ty):Option (List Jm):=if s.k=1\/t.k=0\/(s.k=t.k/\(s.k=2\/s.k=3\/s.k=4))\/(s.k=9/\t.k=9/\s.n=t.n)then some []else none
def eg(sw:Bool)(a:List Fe):List Fe->Option (List Jm)
 |[]=>some []
 |f::l=>match dD a f.s with
  |none=>none
  |some g=>if(f.b&& !g.b)=true then none else(eg sw a l).map ((if sw then(g.t,f.t)else(f.t,g.t)):: ·)
def rI(l:List Ty):Ty:=l.headD Ty.zero
def DG(s t:List Fe):Bool:=s.all λf=>(dD t f.s).isSome||f.b
def jZ(s t:Ty):Option (List Jm):=
 if s.k≠t.k then none else
 if s.k=5 then some [(rI s.ar,rI t.ar)]else
 if s.k=6 then eg true s.fl t.fl else
 if s.k=7 then eg false t.fl s.fl else
 if s.k=8 then(if DG s.fl t.fl then(eg false s.fl t.fl).map (· ++[(rI s.ar,rI t.ar)])else none)else none
def mV:List Pm->List Ty->List Ty->List Jm
 |p::ps,a::xs,b::ys=>(if p.var≠1 then [(a,b)]else [])++(if p.var≠0 then [(b,a)]else [])++mV ps xs ys
 |_,_,_=>[]
def kL(env:List IF)(s t:Ty):Option (List Jm):=
 if s.k≠10\/t.k≠10 then none else
 if(ff env s.m s.n).2.2≠0\/(ff env t.m t.n).2.2≠0\/(di env s.m s.n).2.2≠0\/(ff env s.m s.n).1≠(ff env t.m t.n).1\/(ff env s.m s.n).2.1≠(ff env t.m t.n).2.1\/s.ar.length≠(di env s.m s.n).1.params.length\/t.ar.length≠(di env s.m s.n).1.params.length then none else
 some (mV (di env s.m s.n).1.params s.ar t.ar)
def tK(env:List IF)(ctx:List Pm)(s t:Ty):Option (List Jm):=(jB env ctx s).map λu=>[(u,t)]
def xQ(env:List IF)(s t:Ty):Option (List Jm):=if(cQ env t).2.2=0 then some [(s,(cQ env t).1)]else none
def lF(env:List IF)(ctx:List Pm)(s t:Ty)(r:Nat):Option (List Jm):=if r=1 then xR s t else if r=2 then jZ s t else if r=3 then kL env s t else if r=4 then tK env ctx s t else xQ env s t
def lD(dec:Jm->Mem->Option (Bool×Mem)):List Jm->Mem->Option (Bool×Mem)
 |[],m=>some (true,m)
 |j::l,m=>match dec j m with
  |none=>none
  |some (true,m')=>lD dec l m'
  |some (false,m')=>some (false,m')
def gA(dec:Jm->Mem->Option (Bool×Mem))(b:Nat->Option (List Jm))(j:Jm)(a:List Jm):List Nat->List Jm->Option (Bool×Mem)
 |[],bad=>some (false,(a,bad++[j]))
 |r::c,bad=>match b r with
  |none=>gA dec b j a c bad
  |some l=>match lD dec l (a++[j],bad)with
   |none=>none
   |some (true,m)=>some (true,m)
   |some (false,m)=>gA dec b j a c m.2
noncomputable def pw(a:Ty->Ty->Nat->Option (List Jm)):Nat->Jm->Mem->Option (Bool×Mem)
 |0,_,_=>none
 |n+1,j,m=>if j∈m.2 then some (false,m)else if j∈m.1 then some (true,m)else gA (pw a n) (a j.1 j.2) j m.1 [1,2,3,4,5] m.2
def xO(C:List Ty):List Jm:=C.flatMap λs=>C.map λt=>(s,t)
def rq{C:List Ty}{j:Jm}:j∈xO C↔j.1∈C/\j.2∈C:=by
 unfold xO;rw[dp];constructor
 ·rintro⟨s,hs,h⟩;obtain⟨t,a,rfl⟩:=bP.1 h;exact⟨hs,a⟩
 ·rintro⟨h1,J⟩;exact⟨j.1,h1,bP.2 ⟨j.2,J,rfl⟩⟩
def rr(C:List Ty):(xO C).length=C.length*C.length:=by
 unfold xO;rw[nj]
 have:∀l:List Ty,(l.map λs=>(C.map λt=>(s,t)).length).sum=l.length*C.length:=by
  intro l;induction l with
  |nil=>simp
  |cons a l b=>rw[bJ,cm,b,bL,bM,Nat.succ_mul,nZ]
 exact this C
noncomputable def kM(C:List Ty)(a:List Jm):Nat:=((xO C).filter λj=>decide (j∉a)).length
def filter_lt{p q:α->Bool}{l:List α}(c:∀x∈l,q x=true->p x=true){a:α}(ha:a∈l)(d:p a=true)(e:q a=false):(l.filter q).length<(l.filter p).length:=by
 induction l with
 |nil=>simp at ha
 |cons x l f=>
  have g:(l.filter q).length<=(l.filter p).length:=by rw[<- jh,<-jh];exact JM λy b=>c y (by simp[b])
  rw[List.filter_cons,List.filter_cons];rcases bN.1 ha with rfl|ha
  ·rw[d,e];simp;omega
  ·have:=f (λy b=>c y (by simp[b])) ha;cases h1:q x with
   |true=>rw[c x yS h1];simp;omega
   |false=>cases p x<;>simp<;>omega
def filter_le{p q:α->Bool}{l:List α}(a:∀x∈l,q x=true->p x=true):(l.filter q).length<=(l.filter p).length:=by rw[<- jh,<-jh];exact JM λy b=>a y b
def DS{C:List Ty}{g a:List Jm}(h:∀j∈g,j∈a):kM C a<=kM C g:=by unfold kM;refine filter_le λj _ b=>?_;simp only[decide_eq_true_eq]at b ⊢;exactλc=>b (h j c)
def DR{C:List Ty}{g:List Jm}{j:Jm}(h1:j.1∈C)(J:j.2∈C)(b:j∉g):kM C (g++[j])<kM C g:=by unfold kM;refine filter_lt (λx _ a=>?_) (rq.2 ⟨h1,J⟩) (yU b) yS;simp only[decide_eq_true_eq]at a ⊢;exactλc=>a (by simp[c])
structure gH (C:List Ty) (m:Mem):Prop where
 g:m.1.Nodup
 b:m.2.Nodup
 d:∀j∈m.1,j∉m.2
 gC:∀j∈m.1,j.1∈C/\j.2∈C
 bC:∀j∈m.2,j.1∈C/\j.2∈C
def uU{l k:List α}(h:l.Nodup)(hs:∀x∈l,x∈k):l.length<=k.length:=by
 induction l generalizing k with
 |nil=>simp
 |cons a l d=>
  rw[cw]at h;have ha:=hs a yS;have:=d (k:=k.erase a) h.2 λx c=>by have b:x≠a:=λe=>h.1 (e▸c);exact(JU b).2 (hs x (by simp[c]))
  rw[E7 ha]at this;have f:0<k.length:=Ii ha;simp;omega
def gH.WE{C:List Ty}{m:Mem}(h:gH C m):m.1.length<=C.length*C.length:=by rw[<- rr];exact uU h.g λj a=>rq.2 (h.gC j a)
def gH.WG{C:List Ty}{m:Mem}(h:gH C m):m.2.length<=C.length*C.length:=by rw[<- rr];exact uU h.b λj a=>rq.2 (h.bC j a)
def gH.nil{C:List Ty}:gH C ([],[]):=⟨yS,yS,yS,yS,yS⟩
def gH.push{C:List Ty}{g b:List Jm}{j:Jm}(h:gH C (g,b))(h1:j.1∈C)(J:j.2∈C)(f:j∉g)(hb:j∉b):gH C (g++[j],b):=by
 refine⟨?_,h.b,?_,?_,h.bC⟩
 ·simp only;rw[cV];exact⟨h.g,yS,λa ha c hc=>by simp at hc;subst hc;exactλe=>f (e▸ha)⟩
 ·intro x d;rcases bG.1 d with d|d
  ·exact h.d x d
  ·simp at d;subst d;exact hb
 ·intro x d;rcases bG.1 d with d|d
  ·exact h.gC x d
  ·simp at d;subst d;exact⟨h1,J⟩
def gH.fail{C:List Ty}{g b:List Jm}{j:Jm}(h:gH C (g,b))(h1:j.1∈C)(J:j.2∈C)(i:j∉g)(hb:j∉b):gH C (g,b++[j]):=by
 refine⟨h.g,?_,?_,h.gC,?_⟩
 ·simp only;rw[cV];exact⟨h.b,yS,λa ha c hc=>by simp at hc;subst hc;exactλe=>hb (e▸ha)⟩
 ·intro x f d;rcases bG.1 d with d|d
  ·exact h.d x f d
  ·simp at d;subst d;exact i f
 ·intro x f;rcases bG.1 f with f|f
  ·exact h.bC x f
  ·simp at f;subst f;exact⟨h1,J⟩
def gH.back{C:List Ty}{g x b:List Jm}(h:gH C (g++x,b)):gH C (g,b):=⟨(cV.1 h.g).1,h.b,λj a=>h.d j (by simp[a]),λj a=>h.gC j (by simp[a]),h.bC⟩
structure Qp (C:List Ty) (g:List Jm) (b:List Jm) (r:Bool×Mem):Prop where
 ext:∃x,r.2.1=g++x/\(r.1=false->x=[])
 bad:∃x,r.2.2=b++x
 inv:gH C r.2
def GQ(C:List Ty)(a:Ty->Ty->Nat->Option (List Jm)):Prop:=∀s∈C,∀t∈C,∀r l,a s t r=some l->∀j∈l,j.1∈C/\j.2∈C
def Hm{C:List Ty}{dec:Jm->Mem->Option (Bool×Mem)}{B:Nat}(h:∀j g b,j.1∈C->j.2∈C->gH C (g,b)->kM C g<B->∃r,dec j (g,b)=some r/\Qp C g b r):
 ∀(l:List Jm)(g b:List Jm),(∀j∈l,j.1∈C/\j.2∈C)->gH C (g,b)->kM C g<B->∃r,lD dec l (g,b)=some r/\(∃x,r.2.1=g++x)/\(∃x,r.2.2=b++x)/\gH C r.2
 |[],g,b,_,f,_=>⟨_,rfl,⟨[],yS⟩,⟨[],yS⟩,f⟩
 |j::l,g,b,hl,f,hB=>by
  obtain⟨r,hr,c⟩:=h j g b (hl j yS).1 (hl j yS).2 f hB;obtain⟨x,a,d⟩:=c.ext;obtain⟨y,e⟩:=c.bad;obtain⟨r0,n,b'⟩:=r;simp only at a e d;rw[lD,hr];cases r0 with
  |false=>exact⟨_,rfl,⟨x,a⟩,⟨y,e⟩,c.inv⟩
  |true=>obtain⟨r,h1,⟨m,J⟩,⟨i,h3⟩,h4⟩:=Hm h l n b' (λk hk=>hl k (by simp[hk])) c.inv (jd (DS λk hk=>by rw[a];simp[hk]) hB);exact⟨r,h1,⟨x++m,by rw[J,a,bI]⟩,⟨y++i,by rw[h3,e,bI]⟩,h4⟩
def uR{C:List Ty}{dec:Jm->Mem->Option (Bool×Mem)}{s:Nat->Option (List Jm)}{j:Jm}{g:List Jm}(h1:j.1∈C)(J:j.2∈C)(a:j∉g)(i:∀r l,s r=some l->∀k∈l,k.1∈C/\k.2∈C)
 (h:∀k c b',k.1∈C->k.2∈C->gH C (c,b')->kM C c<kM C g->∃r,dec k (c,b')=some r/\Qp C c b' r):
 ∀(d:List Nat)(b:List Jm),gH C (g,b)->j∉b->∃r,gA dec s j g d b=some r/\Qp C g b r
 |[],b,e,hb=>⟨_,rfl,⟨[],yS⟩,⟨[j],rfl⟩,e.fail h1 J a hb⟩
 |r::d,b,e,hb=>by
  rw[gA];cases hr:s r with
  |none=>exact uR h1 J a i h d b e hb
  |some l=>
   obtain⟨q,t,⟨x,f⟩,⟨y,o⟩,m⟩:=Hm h l (g++[j]) b (i r l hr) (e.push h1 J a hb) (DR h1 J a);obtain⟨u,c,b'⟩:=q;simp only at f o;simp only[t];cases u with
   |true=>exact⟨_,rfl,⟨[j]++x,by simp[f]⟩,⟨y,o⟩,m⟩
   |false=>
    have n:gH C (g,b'):=by
     have:gH C (g++([j]++x),b'):=by rw[<- bI,<-f];exact m
     exact this.back
    have p:j∉b':=m.d j (by simp only[f];simp);obtain⟨r',a1,a2⟩:=uR h1 J a i h d b' n p;refine⟨r',a1,a2.ext,?_,a2.inv⟩;obtain⟨z,hz⟩:=a2.bad;exact⟨y++z,by rw[hz,o,bI]⟩
def H4{C:List Ty}{d:Ty->Ty->Nat->Option (List Jm)}(hC:GQ C d):
 ∀(n:Nat)(j:Jm)(g b:List Jm),j.1∈C->j.2∈C->gH C (g,b)->kM C g<n->∃r,pw d n j (g,b)=some r/\Qp C g b r
 |0,j,g,b,_,_,_,h=>yO
 |n+1,j,g,b,h1,J,c,f=>by
  rw[pw];by_cases hb:j∈b
  ·exact⟨_,if_pos hb,⟨[],yS⟩,⟨[],yS⟩,c⟩
  by_cases a:j∈g
  ·exact⟨_,by rw[if_neg hb,if_pos a],⟨[],yS⟩,⟨[],yS⟩,c⟩
  rw[if_neg hb,if_neg a];exact uR h1 J a (λr l hr=>hC _ h1 _ J r l hr) (λk e b' a1 a2 a3 a4=>H4 hC n k e b' a1 a2 a3 yO) [1,2,3,4,5] b c hb
end
end Go.VC
namespace Go.VC
def pJ(env:List IF)(vs:List S)(t:Ty):Int:=
 if t.k=9 then(if vs.contains t.n then 0 else 4)else
 if t.k=10 then(if(di env t.m t.n).2.2≠0 then(di env t.m t.n).2.2 else if(di env t.m t.n).1.params.length≠t.ar.length then 11 else 0)else 0
def qw(env:List IF)(vs:List S)(t:Ty):Int:=gp (t.all.map (pJ env vs))
def tk(env:List IF)(vs:List S)(t:Ty):Int:=if Mg t≠0 then Mg t else qw env vs t
def Cg(vs:List S)(s:S):vs.contains s=vs.any λx=>s==x:=by rw[List.contains_eq_any_beq]
def LF(l:List S)(s:S):(l.any λx=>s==x)=decide (0<=jb l s):=by
 have:(λx:S=>s==x)=λx=>x==s:=by funext x;exact BEq.comm
 rw[this];exact jH
def xq{t:Ty}(hs:t.size<=4294967295):(∀u∈t.er,u.size<=4294967295)/\t.er.length<=4294967295:=by
 refine⟨λu hu=>?_,?_⟩
 ·have:=size_eq t;have J:u.size<=(t.er.map Ty.size).sum:=ph (bP.2 ⟨u,hu,rfl⟩);omega
 ·have:∀l:List Ty,l.length<=(l.map Ty.size).sum:=by
   intro l;induction l with
   |nil=>simp
   |cons x l b=>simp only[bM,bJ,cm];have:=size_eq x;omega
  have h1:=this t.er;have J:=size_eq t;omega
def jL{t u v:Ty}(b:v∈t.er)(hu:u∈v.all):u∈t.all:=by rw[all_eq];exact jC _ (dp.2 ⟨v,b,hu⟩)
def gy(t:Ty):t∈t.all:=by rw[all_eq];simp
def I1(env:List IF)(vs:List S)(t:Ty):qw env vs t=if pJ env vs t=0 then gp ((t.er.flatMap Ty.all).map (pJ env vs))else pJ env vs t:=by unfold qw;rw[all_eq,bJ,iw]
end Go.VC
namespace Go.VC.cG
open Go Go.VC Go.Proofs
section
variable {K:PV->List Ob->Prop}{t:Ty}{c:Int}{c1 c2:S}{f a de g:D}{env:List IF}{vs:List S}
def Sa{l:List S}{d:D}{s:S}(e:d=bA encS l)(hl:l.length<=4294967295)
 (h:∀b,b=l.contains s->K (.bool b) []):FT 74 [] [.lst 9 d,.str s] K:=by
 refine en (cf 9) Tryz.func74 λA C L X=>?_;cbv;refine X.call (VY e (Nat.lt_succ_of_le hl) rfl λr hr=>?_);have q:=h (A.le 0 r) (by rw[X.a,lL,hr];exact((Cg l s).trans (LF l s)).symm);cbv;exact q
def VH(F:Ty.le 4294967295 t)(l:t.er.length<=4294967295)(s:cD t c c1 c2 f a)
 (h:∀r,r=bA cq t.er->K (.lst 29 r) []):FT 222 [] [dO c c1 c2 f a] K:=by
 obtain⟨M,N,I,n,j⟩:=s;have o:t.ar.length+t.fl.length<=4294967295:=by simpa[Ty.er]using l
 refine en (cf 23) Tryz.func222 λA C L X=>?_;obtain⟨d,e,b⟩:=lenOf j;cbv;refine X.call (Sl n yO λq m=>?_);cbv;refine lP X (λy=>y.1<=d/\y.2=bA cq (t.ar++(t.fl.take y.1).map Fe.t)) (λy=>d-y.1) (0,q) ⟨bB _,yU m⟩ [0,1] (λ(y:Nat×D)=>⟨[(12,.int .i64 y.1),(11,.int .i64 (A.len a)),(10,.lst 57 a),(3,.row 29 1),(1,.box 0 0)],[.box [.int .i64 c,.str c1,.str c2,.lst 29 f,.lst 57 a],.row 29 y.2 true]⟩) ?_;rintro⟨i,r⟩ ⟨B,hr⟩;simp only at B hr;cbv;constructor<;>intro h1
 ·have h5:i<t.fl.length:=lY X.a b h1;obtain⟨v,p,E,u,H⟩:=jS X.a j h5;have G:=iX X.a j h5;have x:=jX X.a h5;have z:A.gh (A.add (A.len r) (A.len (A.lit [[.int (A.asInt (A.cell a (bk i) 1)),.str (A.bH (A.cell a (bk i) 2)),.str (A.bH (A.cell a (bk i) 3)),A.cell a (bk i) 4,A.cell a (bk i) 5]]))) 4294967296:=by rw[X.a,hr];simp only[SD,bL];omega
  have w:A.app r (A.lit [[.int (A.asInt (A.cell a (bk i) 1)),.str (A.bH (A.cell a (bk i) 2)),.str (A.bH (A.cell a (bk i) 3)),A.cell a (bk i) 4,A.cell a (bk i) 5]])=bA cq (t.ar++(t.fl.take (i+1)).map Fe.t):=by rw[v,p,E,u,H,X.a,hr,map_take h5,<-bI,<-dk];exact cB (k:=[t.fl[i].t])
  refine p1 ?_;exact⟨(i+1,_),⟨yP,w⟩,yP,[0,1],rfl,yc⟩
 have h5:i=d:=gY X.a b h1;subst h5;rw[e,bD]at hr;cbv;exact h r hr
def Y0(he:de=bA dC env)(ek:eH env)(x:g=bA encS vs)(l:vs.length<=4294967295)(q:cD t c c1 c2 f a)
 (h:∀r:Int,r=pJ env vs t->K (.int .i64 r) []):FT 221 [] [.lst 97 de,.lst 9 g,dO c c1 c2 f a] K:=by
 obtain⟨s,u,o,m,v⟩:=q;refine en (cf 41) Tryz.func221 λA C L X=>?_;have l3:A.len f=bk t.ar.length:=iW X.a m;have Y:=fz X.a;have Z:=qH X.a;have k:∀d':D,d'=bA eU (di env c1 c2).1.params->A.len d'=bk (di env c1 c2).1.params.length:=λd' h=>iW X.a h;unfold pJ at h;rw[<- s,<-u,<-o]at h;cbv;repeat' (first|apply bq|exact zf|(intro J;cbv)|apply bE|(refine X.call (Sa x l λb hb=>?_);cbv)|(refine X.call (SP he ek λy e1 e2 e3 H z F E G i d p B r2 n w j=>?_);cbv))
 ·have J:A.not b=true:=J;have i:A.eq c 9=true:=yA;rw[Z]at i;rw[Y,hb]at J;refine h _ ?_;rw[if_pos (yU i),if_neg (by intro e;rw[e]at J;cases J)]
 ·have J:A.not b=false:=J;have i:A.eq c 9=true:=yA;rw[Z]at i;rw[Y,hb]at J;refine h _ ?_;rw[if_pos (yU i),if_pos (yU J)]
 ·have J:A.not (A.eq r2 0)=true:=J;have i:A.eq c 9=false:=yA;have d:A.eq c 10=true:=yA;rw[Z]at i d;rw[Y,Z,j]at J;refine h _ ?_;rw[if_neg (yU i),if_pos (yU d),if_pos (yU J),j]
 ·have J:A.not (A.eq (A.len e1) (A.len f))=true:=J;have h3:A.not (A.eq r2 0)=false:=yA;have i:A.eq c 9=false:=yA;have d:A.eq c 10=true:=yA;rw[Z]at i d;rw[Y,Z,j]at h3;rw[Y,Z,k _ n.2.1,l3]at J;refine h _ ?_;rw[if_neg (yU i),if_pos (yU d),if_neg (yU h3),if_pos (by intro e;rw[e]at J;simp at J)]
 ·have J:A.not (A.eq (A.len e1) (A.len f))=false:=J;have h3:A.not (A.eq r2 0)=false:=yA;have i:A.eq c 9=false:=yA;have d:A.eq c 10=true:=yA;rw[Z]at i d;rw[Y,Z,j]at h3;rw[Y,Z,k _ n.2.1,l3]at J;refine h _ ?_;rw[if_neg (yU i),if_pos (yU d),if_neg (yU h3),if_neg (by have J:(bk (di env c1 c2).1.params.length==bk t.ar.length)=true:=yU J;have:=eq_of_beq J;simp only[bz]at this;omega)]
 ·have i:A.eq c 9=false:=yA;have d:A.eq c 10=false:=yA;rw[Z]at i d;refine h _ ?_;rw[if_neg (yU i),if_neg (yU d)]
def Zb(he:de=bA dC env)(ek:eH env)(x:g=bA encS vs)(p:vs.length<=4294967295):
 ∀(t:Ty),Ty.le 4294967295 t->t.size<=4294967295->∀{c:Int}{c1 c2:S}{f a:D}{K:PV->List Ob->Prop},cD t c c1 c2 f a->(∀r:Int,r=qw env vs t->K (.int .i64 r) [])->FT 189 [] [.lst 97 de,.lst 9 g,dO c c1 c2 f a] K:=by
 refine Ty.gj λt y=>?_;intro m hs c c1 c2 f a K v h;obtain⟨l,o⟩:=xq hs;refine en (cf 33) Tryz.func189 λA C L X=>?_;have Y:=fz X.a;have Z:=qH X.a;cbv;refine X.call (Y0 he ek x p v λu n=>?_);rw[I1,<-n]at h;refine p2 (λJ=>?_) (λJ=>?_)
 ·have J:A.not (A.eq u 0)=true:=J;rw[Y,Z]at J;refine h _ ?_;rw[if_neg (yU J)]
 have J:A.not (A.eq u 0)=false:=J;rw[Y,Z]at J;rw[if_pos (yU J)]at h;refine X.call (VH m o v λB e=>?_);obtain⟨d,k,b⟩:=lenOf e;cbv;refine lu X (λi=>i<=d/\gp (((t.er.take i).flatMap Ty.all).map (pJ env vs))=0) (λi=>d-i) 0 ⟨bB _,rfl⟩ (λ(i:Nat)=>[(21,.int .i64 i)]) ?_;rintro i ⟨E,ha⟩;cbv;constructor<;>intro h1
 ·have h5:i<t.er.length:=lY X.a b h1;have w:=gT X.a e h5;have z:=iX X.a e h5;have q:=jX X.a h5;have e2:t.er.flatMap Ty.all=(t.er.take (i+1)).flatMap Ty.all++(t.er.drop (i+1)).flatMap Ty.all:=by rw[<- eD,cX]
  have j:gp (((t.er.take (i+1)).flatMap Ty.all).map (pJ env vs))=qw env vs t.er[i]:=by rw[gk h5,cj,sU,ha,if_pos rfl];rfl
  refine p1 ?_;refine X.call (y _ (bu h5) (ie m _ (bu h5)) (l _ (bu h5)) w λe1 s=>?_);rw[<- s]at j;cbv;repeat' (first|apply bq|exact zf|(intro J;cbv)|apply bE)
  any_goals exact q
  ·have J:A.not (A.eq e1 0)=true:=yA;rw[Y,Z]at J;refine h _ ?_;rw[e2,cj,sU,j,if_neg (yU J)]
  ·have J:A.not (A.eq e1 0)=false:=yA;rw[Y,Z]at J;refine⟨i+1,⟨yO,?_⟩,yO,?_⟩
   ·rw[j];simpa using J
   exact yc
 ·have h5:i=d:=gY X.a b h1;cbv;refine h 0 ?_;rw[h5,k,bD]at ha;exact ha.symm
def Nk(he:de=bA dC env)(ek:eH env)(l:g=bA encS vs)(e:vs.length<=4294967295)
 (b:Ty.le 4294967295 t) (hs:t.size<=4294967295) (m:∀u∈t.all,u.mi) (k:cD t c c1 c2 f a) (h:∀r:Int,r=tk env vs t->K (.int .i64 r) []):
 FT 138 [] [.lst 97 de,.lst 9 g,dO c c1 c2 f a] K:=by
 refine en (cf 17) Tryz.func138 λA C L X=>?_;have Y:=fz X.a;have Z:=qH X.a;cbv;refine X.call (Zc b hs m k λj d=>?_);rw[tk,<-d]at h;refine p2 (λJ=>?_) (λJ=>?_)
 ·have J:A.not (A.eq j 0)=true:=J;rw[Y,Z]at J;exact h _ (by rw[if_pos (yU J)])
 have J:A.not (A.eq j 0)=false:=J;rw[Y,Z]at J;rw[if_neg (yU J)]at h;refine X.call (Zb he ek l e t b hs k λe1 i=>?_);cbv;exact h _ i
end
end Go.VC.cG
namespace Go.VC
open Go
section
variable {tt:TypeId->Option TI}
def qg:Ob->Ob
 | .box cs=>.box (cS (thin 1) cs)
 |o=>o
def o3(o:Ob):(qg o).live=o.live:=by cases o<;>rfl
def Kc(n:Nat):GS (thin n):=by intro p;cases n<;>cases p<;>simp only[thin]<;>(try exact id)<;>(try exactλh=>by first|exact h|(cases h;done))
theorem OR.qg{E:List RI}{Pp:fE}{w:World}{ri:RI}{o:Ob}(h:OR tt E Pp w ri o):OR tt E Pp w ri (qg o):=by
 cases o<;>try exact h
 rename_i cs;cases ri<;>simp only[OR,VC.qg]at h ⊢
 ·obtain⟨vs,T,h1,J,h3⟩:=h;exact⟨vs,T,h1,eJ.cS (λ_ _=>VR.thin 1) J,h3.1,h3.2.map (Kc 1)⟩
 ·obtain⟨es,h1,J,h3⟩:=h;exact⟨es,h1,eJ.cS (λ_ _=>VR.thin 1) J,h3⟩
def FC.NK{P:Program}{f:FuncId}{objs objs':List Ob}{args:List PV}{K:PV->List Ob->Prop}(s:cS VC.qg objs=objs')(h:FC P tt f objs' args K):FC P tt f objs args K:=by
 subst s
 have a:∀(i:Nat) o,(cS VC.qg objs)[i]? =some o->∃c,objs[i]? =some c/\o=VC.qg c:=by
  intro i o d;rw[gG,cu]at d;cases r:objs[i]? with
  |none=>rw[r]at d;cases d
  |some c=>rw[r]at d;cases d;exact⟨c,rfl,rfl⟩
 intro E Pp w vals g t
 have p:WR tt E Pp (cS VC.qg objs) w:=by
  refine⟨by rw[gG,bL];exact g.len,g.pi,?_,?_,g.gl⟩
  ·intro i o d hl;obtain⟨c,h0,rfl⟩:=a i o d;rw[o3]at hl;obtain⟨ri,h1,J⟩:=g.ob i c h0 hl;exact⟨ri,h1,J.qg⟩
  ·intro i j oi oj ri rj b d u n m;obtain⟨c,h0,rfl⟩:=a i oi d;obtain⟨y,h1,rfl⟩:=a j oj u;rw[o3]at n m;exact g.sep i j c y ri rj b h0 h1 n m
 have k:own E (cS VC.qg objs)=own E objs:=by
  funext b;apply propext;constructor
  ·rintro⟨i,o,ri,h1,J,h3,h4⟩;obtain⟨c,h0,rfl⟩:=a i o h1;exact⟨i,c,ri,h0,by rw[o3]at J;exact J,h3,h4⟩
  ·rintro⟨i,o,ri,h1,J,h3,h4⟩;refine⟨i,VC.qg o,ri,?_,by rw[o3];exact J,h3,h4⟩;rw[gG,cu,h1];rfl
 have:=h E Pp w vals p t;refine this.mono ?_;rintro e w' ⟨v,E',Pp',o',pv,h1,J,h3,h4,h5,h6,h7,h8,q⟩;rw[k]at h7 h8 q;exact⟨v,E',Pp',o',pv,h1,J,h3,h4,h5,h6,h7,h8,q⟩
abbrev BB:=Bool×Bool
def wu(a b:BB):BB:=(a.1||b.1,a.2||b.2)
def NF(v:Int)(o:BB):BB:=if v=0 then o else if v=1 then(o.2,o.1)else(o.1||o.2,o.1||o.2)
def varOf(ps:List Pm)(i:Nat):Int:=match ps[i]? with|some p=>p.var|none=>2
mutual
def pV(env:List IF)(x:S):Ty->BB
 | .mk k m n ar fl=>if k=9 then(n==x,false)else if k=10 then mI env x (di env m n).1.params 0 ar else wu (mH env x ar) (nN env x (k==8) fl)
def mI(env:List IF)(x:S)(ps:List Pm):Nat->List Ty->BB
 |_,[]=>(false,false)
 |i,t::l=>wu (NF (varOf ps i) (pV env x t)) (mI env x ps (i+1) l)
def mH(env:List IF)(x:S):List Ty->BB
 |[]=>(false,false)
 |t::l=>wu (pV env x t) (mH env x l)
def nN(env:List IF)(x:S)(sw:Bool):List Fe->BB
 |[]=>(false,false)
 | .mk _ t _::l=>wu (if sw then((pV env x t).2,(pV env x t).1)else pV env x t) (nN env x sw l)
end
variable {env:List IF}{x:S}{i:Nat}{l:List Ty}
def Qg(s:Int)(o:BB):Bool:=if 0<s then o.1 else if s<0 then o.2 else o.1||o.2
def s9(s:Int)(o q:BB):BB:=(q.1||Qg s o,q.2||Qg (-s) o)
def ox(a b c:BB):wu (wu a b) c=wu a (wu b c):=by simp[wu,vD]
def BQ(a:BB):wu a (false,false)=a:=by simp[wu]
def Gj(a:BB):wu (false,false) a=a:=by simp[wu]
def sy(s:Int)(a b q:BB):s9 s (wu a b) q=s9 s b (s9 s a q):=by
 unfold s9 Qg wu;rcases pS s 0 with h|h|h
 ·have h1:¬0<s:=yO;have J:0< -s:=yO;simp[h,h1,J,vD]
 ·subst h;simp;constructor<;>(cases q.1<;>cases q.2<;>cases a.1<;>cases a.2<;>cases b.1<;>cases b.2<;>rfl)
 ·have h1:¬s<0:=yO;have J:¬0< -s:=yO;have h3: -s<0:=yO;simp[h,h1,J,h3,vD]
def J7(s:Int)(q:BB):s9 s (false,false) q=q:=by unfold s9 Qg;simp
def G8(s:Int)(o q:BB):s9 s (o.2,o.1) q=s9 (-s) o q:=by
 unfold s9 Qg;rcases pS s 0 with h|h|h
 ·have h1:¬0<s:=yO;have J:0< -s:=yO;simp[h,h1,J]
 ·subst h;simp[Bool.or_comm]
 ·have h1:¬s<0:=yO;have J:¬0< -s:=yO;have h3: -s<0:=yO;simp[h,h1,J,h3]
def J8(s:Int)(o q:BB):s9 s (o.1||o.2,o.1||o.2) q=s9 0 o q:=by
 unfold s9 Qg;rcases pS s 0 with h|h|h
 ·have h1:¬0<s:=yO;have J:0< -s:=yO;simp[h,h1,J]
 ·subst h;simp
 ·have h1:¬s<0:=yO;have J:¬0< -s:=yO;have h3: -s<0:=yO;simp[h,h1,J,h3]
def tm(s v:Int)(o q:BB):s9 s (NF v o) q=if v=0 then s9 s o q else if v=1 then s9 (-s) o q else s9 0 o q:=by
 unfold NF;split
 ·rfl
 ·split
  ·exact G8 _ _ _
  ·exact J8 _ _ _
def DC(env:List IF)(x:S)(ps:List Pm):∀(l k:List Ty)(i:Nat),mI env x ps i (l++k)=wu (mI env x ps i l) (mI env x ps (i+l.length) k)
 |[],k,i=>by simp[mI,Gj]
 |t::l,k,i=>by rw[dP,mI,mI,DC env x ps l k (i+1),ox];simp[nZ,Nat.add_left_comm]
def DA(env:List IF)(x:S):∀(l k:List Ty),mH env x (l++k)=wu (mH env x l) (mH env x k)
 |[],k=>by simp[mH,Gj]
 |t::l,k=>by rw[dP,mH,mH,DA env x l k,ox]
def DB(env:List IF)(x:S)(sw:Bool):∀(l k:List Fe),nN env x sw (l++k)=wu (nN env x sw l) (nN env x sw k)
 |[],k=>by simp[nN,Gj]
 | .mk s t b::l,k=>by rw[dP,nN,nN,DB env x sw l k,ox]
def IZ{ps:List Pm}(h:i<l.length):mI env x ps 0 (l.take (i+1))=wu (mI env x ps 0 (l.take i)) (NF (varOf ps i) (pV env x l[i])):=by rw[cb h,DC,dW,cJ,Cv (JI h),mI,mI,BQ]
def IX(h:i<l.length):mH env x (l.take (i+1))=wu (mH env x (l.take i)) (pV env x l[i]):=by rw[cb h,DA,mH,mH,BQ]
def IY{sw:Bool}{l:List Fe}(h:i<l.length):nN env x sw (l.take (i+1))=wu (nN env x sw (l.take i)) (if sw then((pV env x l[i].t).2,(pV env x l[i].t).1)else pV env x l[i].t):=by
 rw[cb h,DB]
 congr 1
 cases l[i];rw[nN,nN,BQ];rfl
def QZ(env:List IF)(x:S)(t:Ty):pV env x t=if t.k=9 then(t.n==x,false)else if t.k=10 then mI env x (di env t.m t.n).1.params 0 t.ar else wu (mH env x t.ar) (nN env x (t.k==8) t.fl):=by cases t;rw[pV];rfl
def jY(env:List IF)(t:Ty):List S->List Pm->Bool
 |_,[]=>true
 |seen,p::l=>if seen.contains p.name then jY env t seen l else
  if(p.var=0/\(pV env p.name t).2=true)\/(p.var=1/\(pV env p.name t).1=true)then false else jY env t (seen++[p.name]) l
end
end Go.VC
namespace Go.VC.cG
open Go Go.VC Go.Proofs
def TJ:ea:={tt:=tt,n:=128,live:=[330],dV:=[330],n0:=5}
def Jd(b:Bool)(P:PV):Prop:=P= .bool b\/P= .bl b
abbrev Pl(P N:PV)(x:S)(de:D):List Ob:=[.box [P],.box [.str x],.box [N],.box [.lst 97 de],.box [.cy 330 [.box 0 0,.box 1 0,.box 2 0,.box 3 0,.box 4 0]]]
def Yd{env:List IF}{de:D}{x:S}(he:de=bA dC env)(ek:eH env):
 ∀(t:Ty),Ty.le 4294967295 t->∀{s:Int}(hs: -1<=s/\s<=1){p n:Bool}{P N:PV}(hP:Jd p P)(hN:Jd n N){E:Int}{c1 c2:S}{c3 c4:D}{K:PV->List Ob->Prop},cD t E c1 c2 c3 c4->
  (∀p' n' P' N',Jd p' P'->Jd n' N'->(p',n')=s9 s (pV env x t) (p,n)->K (.tup []) (Pl P' N' x de))->
  FT 330 (Pl P N x de) [dO E c1 c2 c3 c4,.int .i64 s,.box 0 0,.box 1 0,.box 2 0,.box 3 0,.box 4 0] K:=by
 refine Ty.gj λt ih=>?_;intro af s hs p n P N hP hN E c1 c2 c3 c4 K ht h;refine FC.NK (objs':=Pl (.bool p) (.bool n) x de) (by rcases hP with rfl|rfl<;>rcases hN with rfl|rfl<;>rfl) ?_;clear hP hN P N;have aC:=ht;obtain⟨t0,t1,t2,M,ak⟩:=aC;rw[QZ,<-t0,<-t1,<-t2]at h;have aR:t.ar.length<=4294967295:=by cases af;assumption
 have aV:t.fl.length<=4294967295:=by cases af;assumption
 have O:∀i (w:i<t.ar.length),_:=λi w=>ih t.ar[i] (by simp[Ty.er]);have ap:∀i (w:i<t.fl.length),_:=λi w=>ih t.fl[i].t (by simp only[Ty.er,bG,bP];exact .inr ⟨_,bu w,rfl⟩);have V:∀i (w:i<t.ar.length),Ty.le 4294967295 t.ar[i]:=λi w=>ie af _ (by simp[Ty.er]);have au:∀i (w:i<t.fl.length),Ty.le 4294967295 t.fl[i].t:=λi w=>ie af _ (by simp only[Ty.er,bG,bP];exact .inr ⟨_,bu w,rfl⟩);clear ih;refine el TJ Tryz.func330 λA C L X=>?_;have Y:=fz X.a;have Z:=qH X.a;have m:A.inr .i64 (A.sub 0 s):=by rw[X.a,fu,pA];omega
 have hm:A.sub 0 s= -s:=by rw[X.a,pA];omega
 by_cases h9:E=9
 ·have e9:A.eq E 9=true:=by rw[Z,h9];rfl
  rw[if_pos h9]at h
  have hu:∀p' n' P' N',Jd p' P'->Jd n' N'->p'=(p||((c2==x)&&decide (0<=s)))->n'=(n||((c2==x)&&decide (s<=0)))->K (.tup []) (Pl P' N' x de):=by
   intro p' n' P' N' aL aK hp aF;refine h p' n' P' N' aL aK ?_;rw[hp,aF];unfold s9 Qg;rcases pS s 0 with h|h|h
   ·have h1:¬0<s:=yO;have J:0< -s:=yO;have h3:¬0<=s:=yO;have h4:s<=0:=yO;simp[h,h1,J,h3,h4]
   ·subst h;simp
   ·have h1:¬s<0:=yO;have J:¬0< -s:=yO;have h3: -s<0:=yO;have h4:¬s<=0:=yO;have h5:0<=s:=yO;simp[h,h1,J,h3,h4,h5]
  have ac:A.seq c2 x=(c2==x):=yX;have G:A.le 0 s=decide (0<=s):=yX;have F:A.le s 0=decide (s<=0):=yX;clear h O ap;cbv;repeat' (first|apply bq|exact zf|(intro J;first|exact yB e9 J|cbv)|apply bE)
  all_goals (first
   |(refine hu _ _ _ _ (.inl rfl) (.inl rfl) ?_ ?_<;>(clear hu;simp only[dL,ac,G,F]at *;simp_all;done))
   |(refine hu _ _ _ _ (.inl rfl) (.inr rfl) ?_ ?_<;>(clear hu;simp only[dL,ac,G,F]at *;simp_all;done))
   |(refine hu _ _ _ _ (.inr rfl) (.inl rfl) ?_ ?_<;>(clear hu;simp only[dL,ac,G,F]at *;simp_all;done))
   |(refine hu _ _ _ _ (.inr rfl) (.inr rfl) ?_ ?_<;>(clear hu;simp only[dL,ac,G,F]at *;simp_all;done)))
 rw[if_neg h9]at h;have e9:A.eq E 9=false:=by rw[Z];simpa using h9
 have av: -1<=A.sub 0 s/\A.sub 0 s<=1:=by rw[hm];omega
 have aw:(-1:Int)<=0/\(0:Int)<=1:=yD;by_cases ae:E=10
 ·have am:A.eq E 10=true:=by rw[Z,ae];rfl
  rw[if_pos ae]at h;cbv;repeat' (first|apply bq|exact zf|(intro J;first|exact yB e9 J|exact yB am J|cbv)|apply bE|(refine X.call (SP he ek λw0 Q w2 w3 w4 w5 w6 w7 w8 w9 aJ aH r1 r2 hx aD aB=>?_);cbv))
  obtain⟨ps,al⟩:∃ps,ps=(di env c1 c2).1.params:=⟨_,rfl⟩;have aj:Q=bA eU ps:=by rw[al];exact hx.2.1
  rw[<- al]at h;clear al hx aD aB;obtain⟨k,z,j⟩:=lenOf M;have ay:A.len Q=bk ps.length:=iW X.a aj;refine lP X (λy=>y.1<=k/\(y.2.1,y.2.2)=s9 s (mI env x ps 0 (t.ar.take y.1)) (p,n)) (λy=>k-y.1) (0,(p,n)) ⟨bB _,by simp only;rw[CC,mI,J7]⟩ [0,1,2,3,4,5,6] (λ(y:Nat×(Bool×Bool))=>⟨[(94,.int .i64 y.1),(93,.int .i64 (A.len c3)),(92,.lst 29 c3),(1,.int .i64 s),(2,.box 0 0),(3,.box 1 0),(4,.box 2 0),(5,.box 3 0),(6,.box 4 0),(9,.box 6 0)],[.box [.bool y.2.1],.box [.str x],.box [.bool y.2.2],.box [.lst 97 de],.box [.cy 330 [.box 0 0,.box 1 0,.box 2 0,.box 3 0,.box 4 0]],.box [.int .i64 E,.str c1,.str c2,.lst 29 c3,.lst 57 c4],.box [.str w0,.lst 73 Q,.int .i64 w2,.str w3,.str w4,.lst 29 w5,.lst 57 w6,.int .i64 w7,.str w8,.str w9,.lst 29 aJ,.lst 57 aH]]⟩) ?_;rintro⟨i,p',n'⟩ ⟨w,q⟩;simp only at w q;cbv;constructor<;>intro h1
  ·have h5:i<t.ar.length:=lY X.a j h1;have k1:=gT X.a M h5;have o:=iX X.a M h5;have r:=jX X.a h5;have l:=IZ (env:=env) (x:=x) (ps:=ps) h5;by_cases gR:i<ps.length
   ·have aa:A.lt (bk i) (A.len Q)=true:=by rw[ay,X.a,im];exact decide_eq_true yL
    have U:=iX X.a aj gR;have kv:=(Dv X.a aj gR).2;have an:varOf ps i=ps[i].var:=by rw[varOf,bx gR]
    rw[an,<-kv]at l;obtain⟨v,hv⟩:∃v,v=A.asInt (A.cell Q (bk i) 1):=⟨_,rfl⟩;by_cases R:A.asInt (A.cell Q (bk i) 1)=0
    ·have B:A.eq (A.asInt (A.cell Q (bk i) 1)) 0=true:=by rw[Z,R];rfl
     cbv;repeat' (first|apply bq|exact zf|(intro J;first|exact yB aa J|exact yB B J|cbv)|apply bE|(refine X.call (O i h5 (V i h5) hs (.inl rfl) (.inl rfl) k1 λd c I H e f hu=>?_);cbv))
     any_goals first|exact o|exact r|exact m|exact U
     have g:(d,c)=s9 s (mI env x ps 0 (t.ar.take (i+1))) (p,n):=by rw[l,sy,tm,if_pos R,<-q];exact hu
     rcases e with rfl|rfl<;>rcases f with rfl|rfl<;>(refine⟨(i+1,(d,c)),⟨yP,g⟩,yP,[0,1,2,3,4,5,6],rfl,?_⟩;exact yc)
    by_cases ad:A.asInt (A.cell Q (bk i) 1)=1
    ·have B:A.eq (A.asInt (A.cell Q (bk i) 1)) 0=false:=by rw[Z];simpa using R
     have T:A.eq (A.asInt (A.cell Q (bk i) 1)) 1=true:=by rw[Z,ad];rfl
     cbv;repeat' (first|apply bq|exact zf|(intro J;first|exact yB aa J|exact yB B J|exact yB T J|cbv)|apply bE|(refine X.call (O i h5 (V i h5) av (.inl rfl) (.inl rfl) k1 λd c I H e f hu=>?_);cbv))
     any_goals first|exact o|exact r|exact m|exact U
     have g:(d,c)=s9 s (mI env x ps 0 (t.ar.take (i+1))) (p,n):=by rw[l,sy,tm,if_neg R,if_pos ad,<-q,<-hm];exact hu
     rcases e with rfl|rfl<;>rcases f with rfl|rfl<;>(refine⟨(i+1,(d,c)),⟨yP,g⟩,yP,[0,1,2,3,4,5,6],rfl,?_⟩;exact yc)
    ·have B:A.eq (A.asInt (A.cell Q (bk i) 1)) 0=false:=by rw[Z];simpa using R
     have T:A.eq (A.asInt (A.cell Q (bk i) 1)) 1=false:=by rw[Z];simpa using ad
     cbv;repeat' (first|apply bq|exact zf|(intro J;first|exact yB aa J|exact yB B J|exact yB T J|cbv)|apply bE|(refine X.call (O i h5 (V i h5) aw (.inl rfl) (.inl rfl) k1 λd c I H e f hu=>?_);cbv))
     any_goals first|exact o|exact r|exact m|exact U
     have g:(d,c)=s9 s (mI env x ps 0 (t.ar.take (i+1))) (p,n):=by rw[l,sy,tm,if_neg R,if_neg ad,<-q];exact hu
     rcases e with rfl|rfl<;>rcases f with rfl|rfl<;>(refine⟨(i+1,(d,c)),⟨yP,g⟩,yP,[0,1,2,3,4,5,6],rfl,?_⟩;exact yc)
   ·have aa:A.lt (bk i) (A.len Q)=false:=by rw[ay,X.a,im];exact decide_eq_false yL
    have B:A.eq 2 0=false:=by rw[Z];rfl
    have T:A.eq 2 1=false:=by rw[Z];rfl
    have an:varOf ps i=2:=by rw[varOf,ca yO]
    rw[an]at l;cbv;repeat' (first|apply bq|exact zf|(intro J;first|exact yB aa J|exact yB B J|exact yB T J|cbv)|apply bE|(refine X.call (O i h5 (V i h5) aw (.inl rfl) (.inl rfl) k1 λd c I H e f hu=>?_);cbv))
    any_goals first|exact o|exact r|exact m
    have g:(d,c)=s9 s (mI env x ps 0 (t.ar.take (i+1))) (p,n):=by rw[l,sy,tm,if_neg yD,if_neg yD,<-q];exact hu
    rcases e with rfl|rfl<;>rcases f with rfl|rfl<;>(refine⟨(i+1,(d,c)),⟨yP,g⟩,yP,[0,1,2,3,4,5,6],rfl,?_⟩;exact yc)
  ·have h5:i=k:=gY X.a j h1;rw[h5,z,bD]at q;cbv;exact h p' n' _ _ (.inl rfl) (.inl rfl) q
 have am:A.eq E 10=false:=by rw[Z];simpa using ae
 rw[if_neg ae]at h;cbv;repeat' (first|apply bq|exact zf|(intro J;first|exact yB e9 J|exact yB am J|cbv)|apply bE)
 obtain⟨k,z,j⟩:=lenOf M;obtain⟨W,ai,u⟩:=lenOf ak;refine lP X (λy=>y.1<=k/\(y.2.1,y.2.2)=s9 s (mH env x (t.ar.take y.1)) (p,n)) (λy=>k-y.1) (0,(p,n)) ⟨bB _,by simp only;rw[CC,mH,J7]⟩ [0,1,2,3,4,5] (λ(y:Nat×(Bool×Bool))=>⟨[(24,.int .i64 y.1),(23,.int .i64 (A.len c3)),(22,.lst 29 c3),(1,.int .i64 s),(2,.box 0 0),(3,.box 1 0),(4,.box 2 0),(5,.box 3 0),(6,.box 4 0),(7,.box 5 0)],[.box [.bool y.2.1],.box [.str x],.box [.bool y.2.2],.box [.lst 97 de],.box [.cy 330 [.box 0 0,.box 1 0,.box 2 0,.box 3 0,.box 4 0]],.box [.int .i64 E,.str c1,.str c2,.lst 29 c3,.lst 57 c4]]⟩) ?_;rintro⟨i,p',n'⟩ ⟨w,q⟩;simp only at w q;cbv;constructor<;>intro h1
 ·have h5:i<t.ar.length:=lY X.a j h1;have k1:=gT X.a M h5;have o:=iX X.a M h5;have r:=jX X.a h5;have l:=IX (env:=env) (x:=x) h5;cbv;repeat' (first|apply bq|exact zf|(intro J;first|exact yB e9 J|cbv)|apply bE|(refine X.call (O i h5 (V i h5) hs (.inl rfl) (.inl rfl) k1 λd c I H e f hu=>?_);cbv))
  any_goals first|exact o|exact r|exact m
  have g:(d,c)=s9 s (mH env x (t.ar.take (i+1))) (p,n):=by rw[l,sy,<-q];exact hu
  rcases e with rfl|rfl<;>rcases f with rfl|rfl<;>(refine⟨(i+1,(d,c)),⟨yP,g⟩,yP,[0,1,2,3,4,5],rfl,?_⟩;exact yc)
 have h5:i=k:=gY X.a j h1;rw[h5,z,bD]at q;obtain⟨p0,n0,aN⟩:∃a b,a=p'/\b=n':=⟨_,_,rfl,rfl⟩;clear h5 h1 w;cbv;refine lP X (λy=>y.1<=W/\(y.2.1,y.2.2)=s9 s (wu (mH env x t.ar) (nN env x (t.k==8) (t.fl.take y.1))) (p,n)) (λy=>W-y.1) (0,(p',n')) ⟨bB _,by simp only;rw[CC,nN,BQ];exact q⟩ [0,1,2,3,4,5] (λ(y:Nat×(Bool×Bool))=>⟨[(36,.int .i64 y.1),(35,.int .i64 (A.len c4)),(34,.lst 57 c4),(1,.int .i64 s),(2,.box 0 0),(3,.box 1 0),(4,.box 2 0),(5,.box 3 0),(6,.box 4 0),(7,.box 5 0)],[.box [.bool y.2.1],.box [.str x],.box [.bool y.2.2],.box [.lst 97 de],.box [.cy 330 [.box 0 0,.box 1 0,.box 2 0,.box 3 0,.box 4 0]],.box [.int .i64 E,.str c1,.str c2,.lst 29 c3,.lst 57 c4]]⟩) ?_;clear q aN;rintro⟨i,p',n'⟩ ⟨w,q⟩;simp only at w q;cbv;constructor<;>intro h1
 ·have h5:i<t.fl.length:=lY X.a u h1;have k1:=jS X.a ak h5;have o:=iX X.a ak h5;have r:=jX X.a h5;have l:=IY (env:=env) (x:=x) (sw:=(t.k==8)) h5;by_cases h8:E=8
  ·have e8:A.eq E 8=true:=by rw[Z,h8];rfl
   have ao:(t.k==8)=true:=by rw[<- t0,h8];rfl
   cbv;repeat' (first|apply bq|exact zf|(intro J;first|exact yB e8 J|cbv)|apply bE|(refine X.call (ap i h5 (au i h5) av (.inl rfl) (.inl rfl) k1 λd c I H e f hu=>?_);cbv))
   any_goals first|exact o|exact r|exact m
   have g:(d,c)=s9 s (wu (mH env x t.ar) (nN env x (t.k==8) (t.fl.take (i+1)))) (p,n):=by rw[l,<-ox,sy,<-q,if_pos ao,G8,<-hm];exact hu
   rcases e with rfl|rfl<;>rcases f with rfl|rfl<;>(refine⟨(i+1,(d,c)),⟨yP,g⟩,yP,[0,1,2,3,4,5],rfl,?_⟩;exact yc)
  ·have e8:A.eq E 8=false:=by rw[Z];simpa using h8
   have ao:¬(t.k==8)=true:=by rw[<- t0];simpa using h8
   cbv;repeat' (first|apply bq|exact zf|(intro J;first|exact yB e8 J|cbv)|apply bE|(refine X.call (ap i h5 (au i h5) hs (.inl rfl) (.inl rfl) k1 λd c I H e f hu=>?_);cbv))
   any_goals first|exact o|exact r|exact m
   have g:(d,c)=s9 s (wu (mH env x t.ar) (nN env x (t.k==8) (t.fl.take (i+1)))) (p,n):=by rw[l,<-ox,sy,<-q,if_neg ao];exact hu
   rcases e with rfl|rfl<;>rcases f with rfl|rfl<;>(refine⟨(i+1,(d,c)),⟨yP,g⟩,yP,[0,1,2,3,4,5],rfl,?_⟩;exact yc)
 have h5:i=W:=gY X.a u h1;rw[h5,ai,bD]at q;rw[t0]at h;cbv;exact h p' n' _ _ (.inl rfl) (.inl rfl) q
end Go.VC.cG
namespace Go.VC
section
variable {m:List (S×Bool)}{L:List S}{α:Type}
def Pm.wt(p:Pm):Nat:=1+p.bound.size
def TE.wt(x:TE):Nat:=1+(x.params.map Pm.wt).sum+x.lower.size+x.upper.size
def VE.wt(x:VE):Nat:=1+(x.params.map Pm.wt).sum+x.ty.size
def IF.wt(x:IF):Nat:=1+(x.types.map TE.wt).sum+(x.values.map VE.wt).sum+x.aliases.length+x.deprecated.length
def sr{f:α->Nat}{l:List α}{x:α}(h:x∈l):f x<=(l.map f).sum:=ph (bP.2 ⟨x,h,rfl⟩)
def qc(t:Ty):List S:=t.gS.map (·.1)
def sL(l:List Pm):List S:=l.flatMap λp=>qc p.bound
def sC(x:TE):List S:=sL x.params++qc x.lower++qc x.upper
def uC(x:VE):List S:=sL x.params++qc x.ty
def AD(x:IF):List S:=x.types.flatMap sC++x.values.flatMap uC++x.aliases.map (·.module)
def oY(t:Ty):(qc t).length<=t.size:=by unfold qc;rw[bL];exact kf t
def ln{β:Type}{f:α->List β}{g:α->Nat}:∀{l:List α},(∀x∈l,(f x).length<=g x)->(l.flatMap f).length<=(l.map g).sum
 |[],_=>yS
 |x::l,h=>by have a:=h x yS;have b:=ln (l:=l) (f:=f) (g:=g) λy e=>h y (by simp[e]);simp only[fP,bt,bJ,cm];omega
def xS(l:List Pm):(sL l).length<=(l.map Pm.wt).sum:=ln λp _=>by have:=oY p.bound;unfold Pm.wt;omega
def uX(x:IF):(AD x).length<=x.wt:=by
 have a:=ln (l:=x.types) (f:=sC) (g:=TE.wt) λy _=>by have:=xS y.params;have:=oY y.lower;have:=oY y.upper;simp only[sC,bt,TE.wt];omega
 have b:=ln (l:=x.values) (f:=uC) (g:=VE.wt) λy _=>by have:=xS y.params;have:=oY y.ty;simp only[uC,bt,VE.wt];omega
 simp only[AD,bt,bL,IF.wt];omega
def jx(m:List (S×Bool))(L:List S):Prop:=(m.map (·.1)).Nodup/\∀s,s∈m.map (·.1)↔s∈L
def jx.nil:jx [] []:=⟨yS,yS⟩
def jx.add(h:jx m L)(l:List S):jx (qN m l) (L++l):=⟨EK h.1,λs=>by rw[GK,h.2,bG];exact Or.comm⟩
def jx.of{a:List S}(h:jx m L)(e:∀s,s∈L↔s∈a):jx m a:=⟨h.1,λs=>by rw[h.2,e]⟩
def jx.len(h:jx m L):m.length<=L.length:=by have:=fv h.1 (m:=L) λs hs=>(h.2 s).1 hs;simpa using this
def wx(m:List (S×Bool))(k:S):List (S×Bool):=m.eraseP λx=>k==x.1
def MN{k:S}:Std.FX (bA cO m) (.str k)=bA cO (wx m k):=by
 simp only[Std,dz,bA,cn,wx]
 congr 1
 rw[List.eraseP_map];rfl
def jx.del(h:jx m L)(k:S):jx (wx m k) (L.filter λs=>s != k):=by
 obtain⟨h1,J⟩:=h
 have key:∀m:List (S×Bool),(m.map (·.1)).Nodup->((wx m k).map (·.1)).Nodup/\∀s,s∈(wx m k).map (·.1)↔s∈m.map (·.1)/\s≠k:=by
  intro m a;refine⟨a.sublist (List.Sublist.map _ uB),?_⟩;induction m with
  |nil=>simp[wx]
  |cons x m j=>
   rw[bJ,cw]at a;intro s;by_cases hk:k=x.1
   ·have e:wx (x::m) k=m:=by unfold wx;rw[List.eraseP_cons_of_pos (by simp[hk])]
    rw[e];constructor
    ·intro hs;exact⟨by simp only[bJ,bN];exact .inr hs,λe=>a.1 (by rw[<- hk,<-e];exact hs)⟩
    ·rintro⟨hs,f⟩;rcases bN.1 (by simpa only[bJ]using hs)with e|e
     ·exact absurd (e.trans hk.symm) f
     ·exact e
   ·have e:wx (x::m) k=x::wx m k:=by unfold wx;rw[List.eraseP_cons_of_neg (yU hk)]
    rw[e,bJ,bN,j a.2,bJ,bN];constructor
    ·rintro(h|⟨h,b⟩)
     ·exact⟨.inl h,λe=>hk (e.symm.trans h)⟩
     ·exact⟨.inr h,b⟩
    ·rintro⟨h|h,b⟩
     ·exact .inl h
     ·exact .inr ⟨h,b⟩
 obtain⟨g,i⟩:=key m h1;exact⟨g,λs=>by rw[i,J,kH];simp⟩
end
end Go.VC
namespace Go.VC.cG
open Go Go.VC Go.Proofs
section
variable {d:D}{m:List (S×Bool)}{c:List S}{K:PV->List Ob->Prop}
def Ws{A:pM}{i:Nat}{l:List U}(ha:A=Std)(a:d=bA vp l)(h:i<l.length):A.bH (A.cell d (bk i) 0)=l[i].1/\A.bH (A.cell d (bk i) 1)=l[i].2:=by simp only[cellAt ha a h];subst ha;exact⟨rfl,rfl⟩
def Ps{t:Ty}(o:Ty.le 4294967295 t)(hs:t.size<=4294967295){v:Int}{c1 c2:S}{p q:D}(B:cD t v c1 c2 p q)(w:d=bA cO m)(I:jx m c)
 (h:∀m' r,r=bA cO m'->jx m' (c++qc t)->K (.tup []) [.box [.mp 1],.map .str 4 r]):FT 200 [.box [.mp 1],.map .str 4 d] [dO v c1 c2 p q,.box 0 0] K:=by
 have E:=kf t;refine el Xv Tryz.func200 λA C L X=>?_;cbv;refine X.call (Sp o hs B λl n f k g=>?_);have z:l.length<=t.gS.length:=fv (s6 k) λu hu=>(g u).1 hu;obtain⟨b,j,a⟩:=lenOf f;cbv;refine lp X (λy=>y.1<=b/\y.2=bA cO (qN m ((l.take y.1).map (·.1)))) (λy=>b-y.1) (0,d) ⟨bB _,by simpa[qN]using w⟩ (λ(y:Nat×D)=>⟨[(8,.int .i64 y.1),(7,.int .i64 (A.len n)),(6,.lst 259 n),(1,.box 0 0)],[.box [.mp 1],.map .str 4 y.2]⟩) ?_;rintro⟨i,r⟩ ⟨H,hr⟩;simp only at H hr;cbv;constructor<;>intro h1
 ·have h5:i<l.length:=lY X.a a h1;have x:=(Ws X.a f h5).1;have M:=iX X.a f h5;have G:=jX X.a h5;have F:A.lU r (.str (A.bH (A.cell n (bk i) 0))) [.bool true]=bA cO (qN m ((l.take (i+1)).map (·.1))):=by rw[x,X.a,hr,qT,map_take h5,GJ]
  refine p1 ?_;exact⟨(i+1,_),⟨yP,F⟩,yP,yc⟩
 have h5:i=b:=gY X.a a h1;subst h5;rw[j,bD]at hr;cbv;refine h _ r hr ((I.add (l.map (·.1))).of λs=>?_);simp only[bG,qc,bP];constructor
 ·rintro(h|⟨u,hu,e⟩)
  ·exact .inl h
  ·exact .inr ⟨u,(g u).1 hu,e⟩
 ·rintro(h|⟨u,hu,e⟩)
  ·exact .inl h
  ·exact .inr ⟨u,(g u).2 hu,e⟩
def VK{l:List Pm}(hl:l.length<=4294967295)(ek:∀p∈l,p.ok)(fh:∀p∈l,p.bound.size<=4294967295){k:D}(g:k=bA eU l)(o:d=bA cO m)(s:jx m c)
 (h:∀m' r,r=bA cO m'->jx m' (c++sL l)->K (.tup []) [.box [.cy 200 [.box 1 0]],.box [.mp 2],.map .str 4 r]):FT 202 [.box [.cy 200 [.box 1 0]],.box [.mp 2],.map .str 4 d] [.lst 73 k,.box 0 0] K:=by
 refine el Xt Tryz.func202 λA C L X=>?_;obtain⟨b,f,a⟩:=lenOf g;cbv;refine lp X (λy=>y.1<=b/\y.2.1=bA cO y.2.2/\jx y.2.2 (c++sL (l.take y.1))) (λy=>b-y.1) (0,d,m) ⟨bB _,o,by simpa[sL]using s⟩ (λ(y:Nat×D×List (S×Bool))=>⟨[(7,.int .i64 y.1),(6,.int .i64 (A.len k)),(5,.lst 73 k),(1,.box 0 0)],[.box [.cy 200 [.box 1 0]],.box [.mp 2],.map .str 4 y.2.1]⟩) ?_;rintro⟨i,r,x⟩ ⟨w,hr,e⟩;simp only at w hr e;cbv;constructor<;>intro h1
 ·have h5:i<l.length:=lY X.a a h1;have q:=FO X.a g h5;have v:=iX X.a g h5;have t:=jX X.a h5;refine p1 ?_;refine X.call (Ps (ek _ (bu h5)) (fh _ (bu h5)) q hr e λu r2 n j=>?_);refine p1 ?_;refine⟨(i+1,r2,u),⟨?_,n,?_⟩,?_,?_⟩
  ·simp only;omega
  ·simp only[sL]at j ⊢;rw[gk h5,<-bI];exact j
  ·simp only;omega
  exact yc
 have h5:i=b:=gY X.a a h1;subst h5;rw[f,bD]at e;cbv;exact h _ r hr e
end
end Go.VC.cG
namespace Go.VC
def ye(x:IF):List S:=(AD x).filter λs=>s != x.path
end Go.VC
namespace Go.VC.cG
open Go Go.VC Go.Proofs
def Ss{x:IF}{t:S}{c1 c2 u c4:D}{K:PV->List Ob->Prop}(hx:kn x t c1 c2 u c4)(ek:x.ok)(hw:x.wt<=4294967295)
 (h:∀(l:List S) r,r=bA encS l->zu l->(∀s,s∈l↔s∈ye x)->K (.lst 9 r) []):
 FT 155 [] [nR t c1 c2 u c4] K:=by
 obtain⟨x0,G,I,P,av⟩:=hx;have nt:=ek.nt;have nv:=ek.nv;have na:=ek.na;have M:=uX x;have R:∀y∈x.types,y.wt<=4294967295:=λy hy=>by have:=sr (f:=TE.wt) hy;unfold IF.wt at hw;omega
 have T:∀y∈x.values,y.wt<=4294967295:=λy hy=>by have:=sr (f:=VE.wt) hy;unfold IF.wt at hw;omega
 have wp:∀(l:List Pm) n,(l.map Pm.wt).sum<=n->∀p∈l,p.bound.size<=n:=λl n hn p hp=>by have:=sr (f:=Pm.wt) hp;unfold Pm.wt at *;omega
 refine en Xz Tryz.func155 λA C L X=>?_;obtain⟨q,v,e⟩:=lenOf G;obtain⟨k,B,g⟩:=lenOf I;obtain⟨o,H,d⟩:=lenOf P;cbv;refine lP X (λy=>y.1<=q/\y.2.1=bA cO y.2.2/\jx y.2.2 ((x.types.take y.1).flatMap sC)) (λy=>q-y.1) (0,.list [],[]) ⟨bB _,rfl,jx.nil⟩ [0,1,2,3] (λ(y:Nat×D×List (S×Bool))=>⟨[(18,.int .i64 y.1),(17,.int .i64 (A.len c1)),(16,.lst 136 c1),(1,.box 0 0),(3,.box 2 0),(4,.box 3 0),(5,.cy 202 [.box 3 0])],[.box [.str t,.lst 136 c1,.lst 91 c2,.lst 210 u,.lst 213 c4],.map .str 4 y.2.1,.box [.mp 1],.box [.cy 200 [.box 2 0]]]⟩) ?_;rintro⟨i,r,m⟩ ⟨N,hr,j⟩;simp only at N hr j;cbv;constructor<;>intro h1
 ·have h5:i<x.types.length:=lY X.a e h1;obtain⟨k0,Q,k2,k3⟩:=mz X.a G h5;have c:=ek.t _ (bu h5);have z:=R _ (bu h5);have U:1+(x.types[i].params.map Pm.wt).sum+x.types[i].lower.size+x.types[i].upper.size<=4294967295:=z;have W:=iX X.a G h5;have V:=jX X.a h5;refine p1 ?_;refine X.call (VK c.np c.p (wp _ _ yO) Q hr j λm1 r1 O E=>?_);refine p1 ?_;refine X.call (Ps c.lo yO k2 O E λm2 r2 w F=>?_);refine p1 ?_;refine X.call (Ps c.up yO k3 w F λm3 r3 ah ad=>?_);refine p1 ?_;refine⟨(i+1,r3,m3),⟨?_,ah,?_⟩,?_,[0,1,2,3],rfl,?_⟩
  ·simp only;omega
  ·simp only;rw[gk h5];simpa only[sC,bI]using ad
  ·simp only;omega
  exact yc
 have h5:i=q:=gY X.a e h1;subst h5;rw[v,bD]at j;cbv;refine lP X (λy=>y.1<=k/\y.2.1=bA cO y.2.2/\jx y.2.2 (x.types.flatMap sC++(x.values.take y.1).flatMap uC)) (λy=>k-y.1) (0,r,m) ⟨bB _,hr,yU j⟩ [0,1,2,3] (λ(y:Nat×D×List (S×Bool))=>⟨[(38,.int .i64 y.1),(37,.int .i64 (A.len c2)),(36,.lst 91 c2),(1,.box 0 0),(3,.box 2 0),(4,.box 3 0),(5,.cy 202 [.box 3 0])],[.box [.str t,.lst 136 c1,.lst 91 c2,.lst 210 u,.lst 213 c4],.map .str 4 y.2.1,.box [.mp 1],.box [.cy 200 [.box 2 0]]]⟩) ?_;clear hr j h1 N;rintro⟨i,r,m⟩ ⟨N,hr,j⟩;simp only at N hr j;cbv;constructor<;>intro h1
 ·have h5:i<x.values.length:=lY X.a g h1;obtain⟨k0,Q,k2⟩:=oX X.a I h5;have c:=ek.v _ (bu h5);have z:=T _ (bu h5);have U:1+(x.values[i].params.map Pm.wt).sum+x.values[i].ty.size<=4294967295:=z;have W:=iX X.a I h5;have V:=jX X.a h5;refine p1 ?_;refine X.call (VK c.np c.p (wp _ _ yO) Q hr j λm1 r1 O E=>?_);refine p1 ?_;refine X.call (Ps c.ty yO k2 O E λm2 r2 w F=>?_);refine p1 ?_;refine⟨(i+1,r2,m2),⟨?_,w,?_⟩,?_,[0,1,2,3],rfl,?_⟩
  ·simp only;omega
  ·simp only;rw[gk h5];simpa only[uC,bI]using F
  ·simp only;omega
  exact yc
 have h5:i=k:=gY X.a g h1;subst h5;rw[B,bD]at j;cbv;refine lP X (λy=>y.1<=o/\y.2.1=bA cO y.2.2/\jx y.2.2 (x.types.flatMap sC++x.values.flatMap uC++(x.aliases.take y.1).map (·.module))) (λy=>o-y.1) (0,r,m) ⟨bB _,hr,yU j⟩ [0,1,2] (λ(y:Nat×D×List (S×Bool))=>⟨[(54,.int .i64 y.1),(53,.int .i64 (A.len u)),(52,.lst 210 u),(1,.box 0 0),(3,.box 2 0)],[.box [.str t,.lst 136 c1,.lst 91 c2,.lst 210 u,.lst 213 c4],.map .str 4 y.2.1,.box [.mp 1]]⟩) ?_;clear hr j h1 N;rintro⟨i,r,m⟩ ⟨N,hr,j⟩;simp only at N hr j;cbv;constructor<;>intro h1
 ·have h5:i<x.aliases.length:=lY X.a d h1;have Q:=(UP X.a P h5).2.1;have W:=iX X.a P h5;have V:=jX X.a h5;have q1:A.lU r (.str (A.bH (A.cell u (bk i) 1))) [.bool true]=bA cO (oO m x.aliases[i].module):=by rw[Q,X.a,hr,qT]
  refine p1 ?_;refine⟨(i+1,_,oO m x.aliases[i].module),⟨?_,q1,?_⟩,?_,[0,1,2],rfl,?_⟩
  ·simp only;omega
  ·simp only;rw[map_take h5,<-bI];exact j.add [x.aliases[i].module]
  ·simp only;omega
  exact yc
 have h5:i=o:=gY X.a d h1;subst h5;rw[H,bD]at j;have hd:=j.del t;have q2:A.FX r (.str t)=bA cO (wx m t):=by rw[X.a,hr,MN]
 cbv;refine X.call (F80 ?_);cbv;refine X.call (F79 q2 ?_ hd.1 λl rl ag ac M=>?_)
 ·have a:=hd.len;have b:((AD x).filter λs=>s != t).length<=(AD x).length:=lO _ _;exact jd (bQ a (bQ b (bQ M hw))) yO
 cbv;refine h l rl ag ac λs=>?_;rw[M,hd.2,ye,<-x0];rfl
end Go.VC.cG
namespace Go.VC
structure KT (m:List (S×Bool)) (L:List S):Prop where
 nd:(m.map (·.1)).Nodup
 mem:∀s,s∈m.map (·.1)↔s∈L
 tr:∀x∈m,x.2=true
def TA{k:S}{x:S×Bool}:eP (.str k) (cO x)=(k==x.1):=rfl
def ux{m:List (S×Bool)}{L:List S}(h:KT m L)(k:S):Std.asBool (Std.fc (bA cO m) (.str k) 0)=decide (k∈L):=by
 have e:Std.asBool (Std.fc (bA cO m) (.str k) 0)=decide (k∈m.map (·.1)):=by
  have a:=h.tr;clear h;show Std.asBool ((((m.map cO).find? (eP (.str k))).getD []).getD 1 .nil)=_;induction m with
  |nil=>rfl
  |cons x m b=>
   rw[bJ,cH,TA];by_cases hk:k=x.1
   ·have J:=a x yS;rw[beq_iff_eq.2 hk];have:decide (k∈(x::m).map (·.1))=true:=by simp[hk]
    rw[this];show x.2=true;exact J
   ·rw[beq_eq_false_iff_ne.2 hk];have:=b (λy c=>a y (by simp[c]));rw[this];simp[hk]
 rw[e];exact decide_eq_decide.2 (h.mem k)
def uj(m:List (S×Bool))(k:S):List (S×Bool):=m.eraseP λx=>k==x.1
def MO{m:List (S×Bool)}{k:S}:Std.FX (bA cO m) (.str k)=bA cO (uj m k):=by
 show D.list ((m.map cO).eraseP (eP (.str k)))=D.list ((uj m k).map cO)
 congr 1
 unfold uj;induction m with
 |nil=>rfl
 |cons x m a=>
  rw[bJ,p7,p7,TA];cases k==x.1 with
  |true=>rfl
  |false=>simp only[cond_false,bJ,a]
def Mb{m:List (S×Bool)}{k s:S}(a:(m.map (·.1)).Nodup):s∈(uj m k).map (·.1)↔s∈m.map (·.1)/\s≠k:=by
 unfold uj;induction m with
 |nil=>simp
 |cons x m b=>
  rw[bJ,cw]at a;rw[p7];by_cases hk:k=x.1
  ·rw[beq_iff_eq.2 hk,cond_true,bJ,bN];constructor
   ·intro h;exact⟨.inr h,λe=>a.1 (by rw[<- hk,<-e];exact h)⟩
   ·rintro⟨h|h,J⟩
    ·exact absurd (h.trans hk.symm) J
    ·exact h
  ·rw[beq_eq_false_iff_ne.2 hk,cond_false,bJ,bN,b a.2,bJ,bN];constructor
   ·rintro(h|⟨h,J⟩)
    ·exact⟨.inl h,λe=>hk (e.symm.trans h)⟩
    ·exact⟨.inr h,J⟩
   ·rintro⟨h|h,J⟩
    ·exact .inl h
    ·exact .inr ⟨h,J⟩
def KT.del{m:List (S×Bool)}{L:List S}(h:KT m L)(k:S):KT (uj m k) (L.filter λs=>s != k) where
 nd:=by have:((uj m k).map (·.1)).Sublist (m.map (·.1)):=(uB).map _;exact this.nodup h.nd
 mem s:=by rw[Mb h.nd,h.mem];simp
 tr x hx:=h.tr x (List.mem_of_mem_eraseP hx)
def KT.add{m:List (S×Bool)}{L:List S}(h:KT m L)(k:S):KT (oO m k) (L++[k]) where
 nd:=zt h.nd
 mem s:=by rw[vz,h.mem];simp;exact Or.comm
 tr x hx:=by
  have ht:=h.tr;clear h;induction m with
  |nil=>simp[oO]at hx;subst hx;rfl
  |cons y m ih=>
   simp only[oO]at hx;split at hx
   ·rcases bN.1 hx with rfl|hx
    ·rfl
    ·exact ht x (by simp[hx])
   ·rcases bN.1 hx with rfl|hx
    ·exact ht _ yS
    ·exact ih hx (λy hy=>ht y (by simp[hy]))
def KT.of{m:List (S×Bool)}{L a:List S}(h:KT m L)(e:∀s,s∈L↔s∈a):KT m a:=⟨h.nd,λs=>by rw[h.mem,e],h.tr⟩
def KT.nil:KT [] []:=⟨yS,yS,yS⟩
def NH(o:BB):s9 1 o (false,false)=o:=by unfold s9 Qg;simp
end Go.VC
namespace Go.VC.cG
open Go Go.VC Go.Proofs
section
variable {env:List IF}{de d c:D}{t:Ty}{f:Int}{c1 c2:S}{K:PV->List Ob->Prop}
def TN:ea:={tt:=tt,n:=17,live:=[330],dV:=[330],iT:=[(5,[0,1,2,3])],qC:=[]}
def Yi{x:S}(he:de=bA dC env)(ek:eH env)(e:Ty.le 4294967295 t)(i:cD t f c1 c2 d c)
 (h:∀a b,(a,b)=pV env x t->K (.tup [.bool a,.bool b]) []):FT 312 [] [.lst 97 de,dO f c1 c2 d c,.str x] K:=by
 refine en TN Tryz.func312 λA C L X=>?_;cbv;refine X.call (Yd (p:=false) (n:=false) he ek t e yD (.inr rfl) (.inr rfl) i λa b l k g j hu=>?_);rw[NH]at hu;rcases g with rfl|rfl<;>rcases j with rfl|rfl<;>cbv
 repeat' (first|apply bq|exact zf|(intro J;cbv)|apply bE)
 all_goals exact h a b hu
def Vw{n:D}(he:de=bA dC env)(ek:eH env){ps:List Pm}(x:n=bA eU ps)(I:ps.length<=4294967295)(F:Ty.le 4294967295 t)(M:cD t f c1 c2 d c)
 (h:∀b,b=jY env t [] ps->K (.bool b) []):FT 300 [] [.lst 97 de,.lst 73 n,dO f c1 c2 d c] K:=by
 refine en (cf 49) Tryz.func300 λA C L X=>?_;have Z:=qH X.a;obtain⟨o,s,g⟩:=lenOf x;cbv;refine lP X (λy=>y.1<=o/\∃seen m,y.2=bA cO m/\KT m seen/\jY env t [] ps=jY env t seen (ps.drop y.1)) (λy=>o-y.1) (0,.list []) ⟨bB _,[],[],rfl,KT.nil,rfl⟩ [0,1] (λ(y:Nat×D)=>⟨[(15,.int .i64 y.1),(14,.int .i64 (A.len n)),(13,.lst 73 n),(7,.mp 1),(0,.lst 97 de),(5,.box 0 0)],[.box [.int .i64 f,.str c1,.str c2,.lst 29 d,.lst 57 c],.map .str 4 y.2]⟩) ?_;rintro⟨i,u⟩ ⟨N,seen,m,r,E,hr⟩;simp only at N r hr;cbv;constructor<;>intro h1
 ·have h5:i<ps.length:=lY X.a g h1;obtain⟨v,H⟩:=Dv X.a x h5;have G:=iX X.a x h5;have B:=jX X.a h5;have l:A.asBool (A.fc u (.str (A.bH (A.cell n (bk i) 0))) 0)=decide (ps[i].name∈seen):=by rw[v,X.a,r];exact ux E _
  have p:A.lU u (.str (A.bH (A.cell n (bk i) 0))) [.bool true]=bA cO (oO m ps[i].name):=by rw[v,X.a,r];exact qT
  rw[bF h5,jY]at hr;have z:A.eq (A.asInt (A.cell n (bk i) 1)) 0=(ps[i].var==0):=by rw[Z,H]
  have w:A.eq (A.asInt (A.cell n (bk i) 1)) 1=(ps[i].var==1):=by rw[Z,H]
  have k:decide (ps[i].name∈seen)=true->jY env t [] ps=jY env t seen (ps.drop (i+1)):=by intro e;rw[hr,if_pos (yU e)]
  have j:decide (ps[i].name∈seen)=false->jY env t [] ps=if(ps[i].var=0/\(pV env ps[i].name t).2=true)\/(ps[i].var=1/\(pV env ps[i].name t).1=true)then false else jY env t (seen++[ps[i].name]) (ps.drop (i+1)):=by intro e;rw[hr,if_neg (yU e)]
  clear h1;cbv;repeat' (first|apply bq|exact zf|(intro J;cbv)|apply bE|(refine X.call (Yi he ek F M λa b q=>?_);cbv))
  any_goals first|exact G|exact B
  ·have g1:A.asBool (A.fc u (.str (A.bH (A.cell n (bk i) 0))) 0)=true:=yA;exact⟨(i+1,_),⟨yP,seen,m,r,E,k (l.symm.trans g1)⟩,yP,[0,1],rfl,yc⟩
  all_goals (
   have g1:A.asBool (A.fc u (.str (A.bH (A.cell n (bk i) 0))) 0)=false:=yA;have j:=j (l.symm.trans g1);have q:(a,b)=pV env (A.bH (A.cell n (bk i) 0)) t:=q;rw[v]at q;rw[<- q]at j;simp only at j;simp only[dL,z,w]at *)
  all_goals first
   |(refine h _ ?_;rw[j];clear j h k l p;simp_all;done)
   |(refine⟨(i+1,_),⟨yP,seen++[ps[i].name],_,p,E.add _,?_⟩,yP,[0,1],rfl,?_⟩
     ·rw[j];clear j h k l p;simp_all;done
     exact yc)
 ·have h5:i=o:=gY X.a g h1;cbv;rw[h5,s,cd]at hr;exact h _ hr.symm
end
end Go.VC.cG
namespace Go.VC
open Go
section
variable {α:Type}{k s:S}
def fx{α:Type}(f:α->List D)(x:S×α):List D:=.str x.1::f x.2
def iP{α:Type}(k:S)(v:α):List (S×α)->List (S×α)
 |[]=>[(k,v)]
 |x::r=>if k=x.1 then(k,v)::r else x::iP k v r
def LI{f:α->List D}{x:S×α}:eP (.str k) (fx f x)=(k==x.1):=rfl
def lq{f:α->List D}{m:List (S×α)}{v:α}:Std.lU (bA (fx f) m) (.str k) (f v)=bA (fx f) (iP k v m):=by
 show D.list (iO (.str k) (f v) (m.map (fx f)))=D.list ((iP k v m).map (fx f))
 congr 1
 induction m with
 |nil=>rfl
 |cons x m a=>
  simp only[bJ,iO,iP];rw[LI];by_cases h:k=x.1
  ·rw[if_pos (by simp[h]),if_pos h];rfl
  ·rw[if_neg (by simp[h]),if_neg h,bJ,<-a]
def fJ{α:Type}(m:List (S×α))(k:S):Option α:=(m.find? λx=>k==x.1).map (·.2)
def uc{f:α->List D}(m:List (S×α))(k:S):(m.map (fx f)).find? (eP (.str k))=(m.find? λx=>k==x.1).map (fx f):=by
 induction m with
 |nil=>rfl
 |cons x m a=>
  rw[bJ,cH,cH,LI];cases k==x.1 with
  |true=>rfl
  |false=>exact a
def lx{f:α->List D}{m:List (S×α)}:Std.mJ (bA (fx f) m) (.str k)=(fJ m k).isSome:=by
 show (m.map (fx f)).any (eP (.str k))=_;rw[fJ,No];induction m with
 |nil=>rfl
 |cons x m a=>
  rw[bJ,E8,cH,LI];cases k==x.1 with
  |true=>rfl
  |false=>rw[Bool.false_or];exact a
def ly{f:α->List D}{m:List (S×α)}{v:α}(h:fJ m k=some v)(j:Nat):Std.fc (bA (fx f) m) (.str k) j=(f v).getD j .nil:=by
 show (((m.map (fx f)).find? (eP (.str k))).getD []).getD (j+1) .nil=_;rw[uc];unfold fJ at h;cases a:m.find? λx=>k==x.1 with
 |none=>rw[a]at h;cases h
 |some x=>rw[a]at h;cases h;rfl
def uw{f:α->List D}{m:List (S×α)}(h:fJ m k=none)(j:Nat):Std.fc (bA (fx f) m) (.str k) j= .nil:=by
 show (((m.map (fx f)).find? (eP (.str k))).getD []).getD (j+1) .nil=_;rw[uc];unfold fJ at h;cases a:m.find? λx=>k==x.1 with
 |none=>rfl
 |some x=>rw[a]at h;cases h
def lh{m:List (S×α)}{v:α}:fJ (iP k v m) s=if s=k then some v else fJ m s:=by
 unfold fJ;induction m with
 |nil=>
  by_cases h:s=k
  ·subst h;simp[iP]
  ·simp[iP,h]
 |cons x m b=>
  simp only[iP];by_cases hk:k=x.1
  ·rw[if_pos hk];by_cases h:s=k
   ·subst h;simp
   ·rw[if_neg h];have:(s==x.1)=false:=by rw[<- hk];simpa using h
    rw[cH,cH,this];have J:(s==k)=false:=yU h;simp[J]
  ·rw[if_neg hk,cH,cH];cases hs:s==x.1 with
   |true=>have:s=x.1:=yU hs;have a:s≠k:=λe=>hk (e.symm.trans this);simp[a]
   |false=>exact b
def Ds{m:List (S×α)}{v:α}:s∈(iP k v m).map (·.1)↔s=k\/s∈m.map (·.1):=by
 induction m with
 |nil=>simp[iP]
 |cons x m a=>
  simp only[iP];split
  ·rename_i h;simp only[bJ,bN,<-h];constructor
   ·rintro(h1|h1);exact .inl h1;exact .inr (.inr h1)
   ·rintro(h1|h1|h1);exact .inl h1;exact .inl h1;exact .inr h1
  ·simp only[bJ,bN,a];constructor
   ·rintro(h1|h1|h1);exact .inr (.inl h1);exact .inl h1;exact .inr (.inr h1)
   ·rintro(h1|h1|h1);exact .inr (.inl h1);exact .inl h1;exact .inr (.inr h1)
def rn{m:List (S×α)}{v:α}(h:(m.map (·.1)).Nodup):((iP k v m).map (·.1)).Nodup:=by
 induction m with
 |nil=>simp[iP]
 |cons x m a=>
  rw[bJ,cw]at h;simp only[iP];split
  ·rename_i hk;rw[bJ,cw];exact⟨by simp only[hk];exact h.1,h.2⟩
  ·rename_i hk;rw[bJ,cw,Ds];exact⟨λe=>by rcases e with e|e;exact hk e.symm;exact h.1 e,a h.2⟩
def N8{m:List (S×α)}{v:α}:(iP k v m).length<=m.length+1:=by
 induction m with
 |nil=>simp[iP]
 |cons x m a=>simp only[iP];split<;>simp;omega
def yp{m:List (S×α)}:k∈m.map (·.1)↔(fJ m k).isSome=true:=by
 unfold fJ;rw[No];induction m with
 |nil=>simp
 |cons x m a=>
  rw[bJ,bN,cH];by_cases h:k=x.1
  ·simp[h]
  ·have:(k==x.1)=false:=yU h;rw[this];simp only[h,false_or];exact a
def ta(i:IF)(n:S):Option TE:=i.types.find? λx=>x.name==n
structure TM (m:List (S×TE)) (i:IF):Prop where
 nd:(m.map (·.1)).Nodup
 get:∀n,fJ m n=ta i n
def iQ(i:IF)(m n:S):Option S:=match lJ [i] m n with
 | .uF _ n' _=>if(ta i n').isSome then some n' else none
 | .val _ n' _=>if(ta i n').isSome then some n' else none
 |_=>none
def Ln{i:IF}{p n r0 a:S}{r2:Int}(hr:(r0,a,r2)=(match lJ [i] p n with| .nf=>([],[],6)| .loop=>([],[],14)| .uF m' n' _=>(m',n',0)| .val m' n' _=>(m',n',0):S×S×Int)):
 (iQ i p n).isSome=(r2==0&&(ta i a).isSome)/\((iQ i p n).isSome=true->iQ i p n=some a):=by
 unfold iQ;generalize lJ [i] p n=e at hr;cases e with
 |uF m' n' x=>have hr:(r0,a,r2)=(m',n',0):=hr;cases hr;simp only;cases b:ta i a<;>simp[b]
 |val m' n' x=>have hr:(r0,a,r2)=(m',n',0):=hr;cases hr;simp only;cases b:ta i a<;>simp[b]
 |nf=>have hr:(r0,a,r2)=([],[],6):=hr;cases hr;simp
 |loop=>have hr:(r0,a,r2)=([],[],14):=hr;cases hr;simp
end
end Go.VC
namespace Go.VC.cG
open Go Go.VC Go.Proofs
section
variable {K:PV->List Ob->Prop}
def FC.g3{P:Program}{tt:TypeId->Option TI}{f:FuncId}{objs:List Ob}{a b c:PV}{rest:List PV}(h:FC P tt f objs (.agg [a,b,.undef]::rest) K):FC P tt f objs (.agg [a,b,c]::rest) K:=by
 intro E Pp w vals d e;refine h E Pp w vals d ?_;cases e with
 |cons v _ vs _ h1 J=>
  refine .cons _ _ _ _ ?_ J;cases h1 with
  |agg us _ hl=>
   cases hl with|cons _ _ _ _ ha hl=>cases hl with|cons _ _ _ _ hb hl=>cases hl with|cons _ _ _ _ hc hl=>
   cases hl;exact .agg _ _ (.cons _ _ _ _ ha (.cons _ _ _ _ hb (.cons _ _ _ _ (.undef _) .nil)))
def Sh{i:IF}(r:i.ok){m:List (S×TE)}(q:TM m i){d l:D}(o:d=bA dC [i])(hT:l=bA (fx fY) m){p n:S}
 (h:∀e b,b=(iQ i p n).isSome->(b=true->iQ i p n=some e)->K (.tup [.str e,.bool b]) []):
 FT 345 [] [.agg [.lst 97 d,.dmp 136 l,.undef],.str p,.str n] K:=by
 have ek:eH [i]:=⟨yS,yU r⟩;refine en (cf 35) Tryz.func345 λA C L X=>?_;have Z:=qH X.a;have a:∀k:S,A.mJ l (.str k)=(ta i k).isSome:=λk=>by rw[X.a,hT,lx,q.get]
 cbv;refine X.call (Vq o ek λr0 g r2 hr=>?_);obtain⟨c,f⟩:=Ln hr;have key:∀b,b=(r2==0&&(ta i g).isSome)->K (.tup [.str g,.bool b]) []:=λb hb=>h _ _ (hb.trans c.symm) (λj=>f (by rw[c,<-hb,j]));clear c f hr h;cbv;repeat' (first|apply bq|exact zf|(intro J;cbv)|apply bE)
 all_goals (refine key _ ?_;have e:=a g;clear a key;simp only[dL,Z]at *;simp_all;done)
end
end Go.VC.cG
namespace Go.VC
open Classical
section
variable {k:S}{l:List S}
def ja(j:Jm):S:=j.1.wr++j.2.wr
def yu{a b:Jm}(h:ja a=ja b):a=b:=by obtain⟨h1,J⟩:=key_inj h;exact dR h1 J
def Le{m:List (S×Bool)}{s:S}(a:(m.map (·.1)).Nodup):fJ (uj m k) s=if s=k then none else fJ m s:=by
 unfold fJ uj;induction m with
 |nil=>simp
 |cons x m b=>
  rw[bJ,cw]at a;rw[p7];by_cases hk:k=x.1
  ·rw[beq_iff_eq.2 hk,cond_true];by_cases hs:s=k
   ·rw[if_pos hs];have:m.find? (λy=>s==y.1)=none:=by rw[eN];intro y c e;have e:s=y.1:=yU e;exact a.1 (bP.2 ⟨y,c,by rw[<- e,hs,hk]⟩)
    rw[this];rfl
   ·rw[if_neg hs,cH];have:(s==x.1)=false:=by rw[beq_eq_false_iff_ne];exactλe=>hs (e.trans hk.symm)
    rw[this]
  ·rw[beq_eq_false_iff_ne.2 hk,cond_false,cH,cH];by_cases hs:s=x.1
   ·rw[beq_iff_eq.2 hs];have:¬s=k:=λe=>hk (e.symm.trans hs);rw[if_neg this]
   ·rw[beq_eq_false_iff_ne.2 hs];exact b a.2
def Gv{m:List (S×Bool)}(a:(m.map (·.1)).Nodup):((uj m k).map (·.1)).Nodup:=by unfold uj;exact List.Nodup.sublist ((uB).map _) a
def oN(m:List (S×Bool))(l:List S):List (S×Bool):=l.foldl uj m
def Gu{m:List (S×Bool)}:oN m (l++[k])=uj (oN m l) k:=by simp[oN]
def I8:∀{m:List (S×Bool)},(m.map (·.1)).Nodup->((oN m l).map (·.1)).Nodup/\∀s,fJ (oN m l) s=if s∈l then none else fJ m s:=by
 induction l with
 |nil=>intro m h;exact⟨h,λs=>by simp[oN]⟩
 |cons k l a=>intro m h;obtain⟨h1,J⟩:=a (Gv (k:=k) h);refine⟨h1,λs=>?_⟩;rw[show oN m (k::l)=oN (uj m k) l from rfl,J,Le h];by_cases e:s∈l<;>by_cases e2:s=k<;>simp[e,e2]
structure MK (m:List (S×Bool)) (g b:List Jm):Prop where
 nd:(m.map (·.1)).Nodup
 lk:∀j,fJ m (ja j)=if j∈g then some true else if j∈b then some false else none
def MK.nil:MK [] [] []:=⟨yS,λj=>by simp[fJ]⟩
def MK.push{m:List (S×Bool)}{g b:List Jm}{j:Jm}(h:MK m g b):MK (iP (ja j) true m) (g++[j]) b:=by
 refine⟨rn h.nd,λx=>?_⟩;rw[lh];by_cases e:x=j
 ·rw[if_pos (by rw[e]),if_pos (by simp[e])]
 ·rw[if_neg (λe'=>e (yu e')),h.lk];by_cases a:x∈g
  ·rw[if_pos a,if_pos (by simp[a])]
  ·rw[if_neg a,if_neg (c:=x∈g++[j]) (by simp[a,e])]
def MK.bad{m:List (S×Bool)}{g b:List Jm}{j:Jm}(h:MK m g b)(a:j∉g):MK (iP (ja j) false m) g (b++[j]):=by
 refine⟨rn h.nd,λx=>?_⟩;rw[lh];by_cases e:x=j
 ·rw[if_pos (by rw[e]),if_neg (by rw[e];exact a),if_pos (by simp[e])]
 ·rw[if_neg (λe'=>e (yu e')),h.lk];by_cases hb:x∈b
  ·rw[if_pos hb,if_pos (c:=x∈b++[j]) (by simp[hb])]
  ·rw[if_neg hb,if_neg (c:=x∈b++[j]) (by simp[hb,e])]
def MK.del{m:List (S×Bool)}{g x b:List Jm}(h:MK m (g++x) b)(f:(g++x).Nodup)(i:∀j∈g++x,j∉b):MK (oN m (x.map ja)) g b:=by
 obtain⟨h1,J⟩:=I8 (l:=x.map ja) h.nd;refine⟨h1,λj=>?_⟩;rw[J,h.lk];have hk:ja j∈x.map ja↔j∈x:=by rw[bP];exact⟨λ⟨y,o,e⟩=>yu e▸o,λn=>⟨j,n,rfl⟩⟩
 rw[cV]at f;by_cases d:j∈x
 ·rw[if_pos (hk.2 d)];have a:j∉g:=λa=>f.2.2 j a j d rfl;rw[if_neg a,if_neg (i j (by simp[d]))]
 ·rw[if_neg (λe=>d (hk.1 e))];by_cases a:j∈g
  ·rw[if_pos (c:=j∈g++x) (by simp[a]),if_pos a]
  ·rw[if_neg (c:=j∈g++x) (by simp[a,d]),if_neg a]
end
end Go.VC
namespace Go.Proofs
open Go.Shelf
def Tryz.vY:Go.Shelf.Ren:=⟨fun|169=>132|n=>n,fun|70=>190|9=>9|0=>0|72=>193|37=>191|127=>241|3=>3|5=>5|n=>n,fun|n=>n⟩
def Tryz.Ov:Go.Proofs.Lays.n169 Tryz.prog Tryz.vY:=by constructor<;>first|kernel_rfl|(intro w;kernel_rfl)
def Tryz.uz:Builder.Extra Tryz.prog Tryz.vY:={
 sizeBuilder:=by kernel_rfl
 liesBuilder:=by kernel_rfl
 t5:=Tryz.underlying5
 a5:=Tryz.isAgg5
 z5:=Tryz.sizeOf5
 v5:=Tryz.zeroValue5
 infoByte:=by kernel_rfl
 cellsByte:=by kernel_rfl
 sizeByte:=by kernel_rfl
 neB5:=by decide }
def Tryz.vX:Go.Shelf.Ren:=⟨fun|240=>186|276=>219|n=>n,fun|0=>0|4=>4|9=>9|20=>20|70=>190|72=>193|164=>278|37=>191|n=>n,fun|n=>n⟩
def Tryz.HT:Go.Proofs.Lays.n240 Tryz.prog Tryz.vX:=by constructor<;>first|kernel_rfl|(intro w;kernel_rfl)
def Tryz.pL:Builder.X72 Tryz.prog Tryz.vX:={
 sizeBuilder:=by kernel_rfl
 liesBuilder:=by kernel_rfl }
end Go.Proofs
namespace Go.VC.cG
open Go Go.VC Go.Proofs Go.Shelf
section
variable {d:D}{p:PV}{K:PV->List Ob->Prop}
def UL:∀t ti,tt t=some ti->ti.O0=true->t=193:=by
 intro t ti h hb
 have key:∀l:List (TypeId×TI),(∀x∈l,x.2.O0=true->x.1=193)->∀t ti,v8 l t=some ti->ti.O0=true->t=193:=by
  intro l;induction l with
  |nil=>intro _ t ti h;simp[v8]at h
  |cons x r c=>
   obtain⟨k,i⟩:=x;intro a t ti h hb;simp only[v8]at h;cases hk:nb k t with
   |true=>rw[hk]at h;simp only[cond_true,cz]at h;subst h;have b:k=t:=cR hk;rw[<- b];exact a (k,i) yS hb
   |false=>rw[hk]at h;exact c (λy e=>a y (by simp[e])) t ti h hb
 have g:(Iw.all λx=> !x.2.O0||x.1==193)=true:=by kernel_rfl
 exact key Iw (λx a hb=>by simpa[hb]using eF.1 g x a) t ti h hb
def JF(a:p= .nilp\/p= .box 0 0)(h:K (.tup []) [.box [.box 0 0,.row 5 1],.row 5 d true]):
 FT 186 [.box [p,.row 5 1],.row 5 d true] [.box 0 0] K:=
 Cq (T:=193) UL (enters_of Tryz.func186 (by kernel_rfl) rfl) (λb w h0=>Any.Builder_copyCheck_used Tryz.HT Tryz.pL b w h0)
  (λb w h0 hs hf=>Any.Builder_copyCheck_fresh Tryz.HT Tryz.pL b w h0 hs hf) a h
def Sv{s:List UInt8}(h0:s≠[])(hl:s.length<=4294967296)(a:d= .list (dq s))(c:pa p=true)(h:K (.str s) [.dead,.dead]):
 FT 132 [.box [p,.row 5 1],.row 5 d true] [.box 0 0] K:=
 JE (T:=193) (e:=5) UL (by kernel_rfl) (enters_of Tryz.func132 (by kernel_rfl) rfl) (λb g o cap p cur l w a1 a2 a3 a4 a5 i f=>GR Tryz.Ov Tryz.uz b g o cap p cur l w a1 a2 a3 a4 a5 i f) h0 hl a c h
end
def Uk:ea:={tt:=tt,n:=19,n0:=2,live:=[186]}
def ni{l:List UInt8}{d:D}{p:PV}(a:d= .list (dq l))(b:p= .nilp\/p= .box 0 0){s:S}(hs:l.length+s.length<=4294967296){K:PV->List Ob->Prop}
 (h:∀r,r= .list (dq (l++s))->K (.tup [.int .i64 (bk s.length),.undef]) [.box [.box 0 0,.row 5 2],.dead,.row 5 r true]):FT 130 [.box [p,.row 5 1],.row 5 d true] [.box 0 0,.str s] K:=by
 refine el Uk Tryz.func130 λA C L X=>?_;have e1:A.app d (A.NS s)= .list (dq (l++s)):=by rw[X.a,a];simp[Std,dq,cn]
 have e3:A.gh (A.add (A.len d) (A.len (A.NS s))) 4294967296:=by obtain rfl:=X.a;subst a;simp[Std,dq,cn];omega
 have e2:A.dr s=bk s.length:=yX;rcases b with rfl|rfl
 ·cbv;refine X.call (JF (.inl rfl) ?_);cbv;exact⟨e3,by have q:=h _ e1;rw[<- e2]at q;exact q⟩
 ·cbv;refine X.call (JF (.inr rfl) ?_);cbv;exact⟨e3,by have q:=h _ e1;rw[<- e2]at q;exact q⟩
def T2:ea:={tt:=tt,n:=17,n0:=2,live:=[186]}
def Pq{l:List UInt8}{d:D}{p:PV}(b:d= .list (dq l))(e:p= .nilp\/p= .box 0 0){c:UInt8}(hs:l.length+1<=4294967296){K:PV->List Ob->Prop}
 (h:∀r,r= .list (dq (l++[c]))->K .undef [.box [.box 0 0,.row 5 2],.dead,.row 5 r true]):FT 207 [.box [p,.row 5 1],.row 5 d true] [.box 0 0,.int .u8 (c.toNat:Int)] K:=by
 refine el T2 Tryz.func207 λA C L X=>?_;obtain⟨x,a⟩:∃x,x=(c.toNat:Int):=⟨_,rfl⟩;rw[<- a];have e1:A.app d (A.lit [[.int x]])= .list (dq (l++[c])):=by rw[X.a,b,a];simp[Std,dq,cn]
 have e3:A.gh (A.add (A.len d) (A.len (A.lit [[.int x]]))) 4294967296:=by obtain rfl:=X.a;subst b;simp[Std,dq,cn];omega
 clear a;rcases e with rfl|rfl
 ·cbv;refine X.call (JF (.inl rfl) ?_);cbv;exact⟨e3,by have q:=h _ e1;exact q⟩
 ·cbv;refine X.call (JF (.inr rfl) ?_);cbv;exact⟨e3,by have q:=h _ e1;exact q⟩
end Go.VC.cG
namespace Go.VC
section
variable {i:Nat}{l:List Fe}
def Ty.Oe(t:Ty):List Int:=[t.k,bk t.m.length,bk t.n.length,bk t.ar.length,bk t.fl.length]
def PI(t:Ty):t.wr=t.Oe.flatMap oe++t.m++t.n++Ty.p9 t.ar++Ty.sv t.fl:=by cases t;simp[Ty.wr,Ty.Oe,Ty.k,Ty.m,Ty.n,Ty.ar,Ty.fl,bI]
def Bi:∀(l k:List Ty),Ty.p9 (l++k)=Ty.p9 l++Ty.p9 k
 |[],k=>rfl
 |t::l,k=>by rw[dP,Ty.p9,Bi l k,Ty.p9,bI]
def Bj:∀(l k:List Fe),Ty.sv (l++k)=Ty.sv l++Ty.sv k
 |[],k=>rfl
 |t::l,k=>by rw[dP,Ty.sv,Bj l k,Ty.sv,bI]
def CJ{l:List Ty}(h:i<l.length):Ty.p9 (l.take (i+1))=Ty.p9 (l.take i)++l[i].wr:=by rw[cb h,Bi,Ty.p9,Ty.p9,cA]
def CL(h:i<l.length):Ty.sv (l.take (i+1))=Ty.sv (l.take i)++l[i].wr:=by rw[cb h,Bj,Ty.sv,Ty.sv,cA]
def rB{l:List Int}(h:i<l.length):(l.take (i+1)).flatMap oe=(l.take i).flatMap oe++oe l[i]:=by rw[cb h,eD];simp
def GW{l:List Ty}:(Ty.p9 (l.take i)).length<=(Ty.p9 l).length:=by
 have:Ty.p9 l=Ty.p9 (l.take i)++Ty.p9 (l.drop i):=by rw[<- Bi,cX]
 rw[this];simp
def GZ:(Ty.sv (l.take i)).length<=(Ty.sv l).length:=by
 have:Ty.sv l=Ty.sv (l.take i)++Ty.sv (l.drop i):=by rw[<- Bj,cX]
 rw[this];simp
def tP{l:List Int}:((l.take i).flatMap oe).length<=(l.flatMap oe).length:=by
 have:l.flatMap oe=(l.take i).flatMap oe++(l.drop i).flatMap oe:=by rw[<- eD,cX]
 rw[this];simp
end
end Go.VC
namespace Go.VC.cG
open Go Go.VC Go.Proofs Go.Shelf
def Ub:ea:={tt:=tt,n:=83,n0:=2,live:=[130,207,163]}
abbrev UK(i:Nat)(p:PV)(r:D):List Ob:=match i with
 |0=>[.box [p,.row 5 2],.dead,.row 5 r true]
 |_+1=>[.box [.box 0 0,.row 5 2],.dead,.row 5 r true]
def VP:∀(t:Ty),Ty.le 4294967295 t->(∀u∈t.all,0<=u.k/\u.k<=10)->∀{l:S}{d:D}{p:PV}(hd:d= .list (dq l))(hp:p= .nilp\/p= .box 0 0){E:Int}{c1 c2:S}{v g:D}(ht:cD t E c1 c2 v g)(hs:l.length+t.wr.length<=4294967296){K:PV->List Ob->Prop}
 (h:∀r,r= .list (dq (l++t.wr))->K (.tup []) [.box [.box 0 0,.row 5 2],.dead,.row 5 r true]),FT 163 [.box [p,.row 5 1],.row 5 d true] [.box 0 0,dO E c1 c2 v g] K:=by
 refine Ty.gj λt ih=>?_;intro ab ae l d p hd hp E c1 c2 v g ht hs K h;obtain⟨t0,t1,t2,ai,U⟩:=ht;obtain⟨aL,aC⟩:=ae t (gy t);have aD:t.ar.length<=4294967295:=by cases ab;assumption
 have aI:t.fl.length<=4294967295:=by cases ab;assumption
 rw[PI]at hs;rw[PI]at h;simp only[bt]at hs;have aJ:t.m.length<=4294967296:=yO;have aH:t.n.length<=4294967296:=yO;obtain⟨ns,ak⟩:∃ns,ns=t.Oe:=⟨_,rfl⟩;rw[<- ak]at hs h;have ay:ns.length=5:=by rw[ak];rfl
 have aa:∀x∈ns,-9223372036854775808<=x/\x<=9223372036854775807:=by rw[ak];intro x hx;simp only[Ty.Oe,bN,zx,or_false,bz]at hx;omega
 refine el Ub Tryz.func163 λA C L X=>?_;obtain⟨N,V,z⟩:=lenOf ai;obtain⟨O,T,B⟩:=lenOf U;have hL:A.lit [[.int E],[.int (A.dr c1)],[.int (A.dr c2)],[.int (A.len v)],[.int (A.len g)]]=kq ns:=by rw[X.a,ak,t0,t1,t2,z,B,V,T];rfl
 have H:A.len (A.lit [[.int E],[.int (A.dr c1)],[.int (A.dr c2)],[.int (A.len v)],[.int (A.len g)]])=5:=by rw[hL,X.a,oL,ay];rfl
 rcases hp with rfl|rfl
 ·cbv;refine lP X (λy=>y.1<=5/\y.2= .list (dq (l++(ns.take y.1).flatMap oe))) (λy=>5-y.1) (0,d) ⟨bB _,yU hd⟩ [0,1,2,3] (λ(y:Nat×D)=>⟨[(26,.int .i64 y.1),(25,.int .i64 (A.len (A.lit [[.int E],[.int (A.dr c1)],[.int (A.dr c2)],[.int (A.len v)],[.int (A.len g)]]))),(24,.nx 3 (A.lit [[.int E],[.int (A.dr c1)],[.int (A.dr c2)],[.int (A.len v)],[.int (A.len g)]])),(3,.box 3 0),(0,.box 0 0)],(UK y.1 .nilp y.2)++[.box [.int .i64 E,.str c1,.str c2,.lst 29 v,.lst 57 g]]⟩) ?_;rintro⟨i,r⟩ ⟨hi,hr⟩;simp only at hi hr;rcases i with _|i
  ·cbv;constructor<;>intro h1
   ·have h1:A.lt (bk (0)) (A.len (A.lit [[.int E],[.int (A.dr c1)],[.int (A.dr c2)],[.int (A.len v)],[.int (A.len g)]]))=true:=h1;have h6:0<ns.length:=by rw[H,X.a,im]at h1;have:=of_decide_eq_true h1;simp only[bz]at this;omega
    have G:A.idx (bk (0)) (A.len (A.lit [[.int E],[.int (A.dr c1)],[.int (A.dr c2)],[.int (A.len v)],[.int (A.len g)]])):=by rw[H,X.a,kC];simp only[bz];omega
    have I:A.inr .i64 (A.add (bk (0)) 1):=by rw[X.a];exact fm (n:=5) yO yO
    have hc:A.asInt (A.cell (A.lit [[.int E],[.int (A.dr c1)],[.int (A.dr c2)],[.int (A.len v)],[.int (A.len g)]]) (bk (0)) 0)=ns[0]:=by rw[hL,X.a,oM];simp[h6]
    have hb:=aa _ (bu h6);rw[<- hc]at hb;have b:=rB h6;rw[<- hc]at b;have j:=tP (l:=ns) (i:=0+1);rw[b]at j;simp only[oe,bt,bM,bX]at j;clear h1;cbv;refine⟨G,?_⟩;refine X.call (EO hb.1 hb.2 λW a=>?_);have a:W=Lib.itoa (A.asInt (A.cell (A.lit [[.int E],[.int (A.dr c1)],[.int (A.dr c2)],[.int (A.len v)],[.int (A.len g)]]) (bk (0)) 0)):=a;rw[<- a]at j;cbv;refine X.call (ni hr (.inl rfl) yL λr2 m=>?_);cbv;refine X.call (Pq (c:=32) m (.inr rfl) yL λM o=>?_);have Q:M= .list (dq (l++(ns.take (0+1)).flatMap oe)):=by rw[b,oe,<-a,<-bI,<-bI];exact o
    clear a m o;refine p1 ?_;exact⟨(0+1,M),⟨yP,Q⟩,yP,[0,1,5,3],rfl,yc⟩
   ·exfalso;have h1:A.lt (bk 0) (A.len (A.lit [[.int E],[.int (A.dr c1)],[.int (A.dr c2)],[.int (A.len v)],[.int (A.len g)]]))=false:=h1;rw[H,X.a]at h1;cases h1
  ·cbv;constructor<;>intro h1
   ·have h1:A.lt (bk (i+1)) (A.len (A.lit [[.int E],[.int (A.dr c1)],[.int (A.dr c2)],[.int (A.len v)],[.int (A.len g)]]))=true:=h1;have h6:i+1<ns.length:=by rw[H,X.a,im]at h1;have:=of_decide_eq_true h1;simp only[bz]at this;omega
    have G:A.idx (bk (i+1)) (A.len (A.lit [[.int E],[.int (A.dr c1)],[.int (A.dr c2)],[.int (A.len v)],[.int (A.len g)]])):=by rw[H,X.a,kC];simp only[bz];omega
    have I:A.inr .i64 (A.add (bk (i+1)) 1):=by rw[X.a];exact fm (n:=5) yO yO
    have hc:A.asInt (A.cell (A.lit [[.int E],[.int (A.dr c1)],[.int (A.dr c2)],[.int (A.len v)],[.int (A.len g)]]) (bk (i+1)) 0)=ns[i+1]:=by rw[hL,X.a,oM];simp[h6]
    have hb:=aa _ (bu h6);rw[<- hc]at hb;have b:=rB h6;rw[<- hc]at b;have j:=tP (l:=ns) (i:=i+1+1);rw[b]at j;simp only[oe,bt,bM,bX]at j;clear h1;cbv;refine⟨G,?_⟩;refine X.call (EO hb.1 hb.2 λW a=>?_);have a:W=Lib.itoa (A.asInt (A.cell (A.lit [[.int E],[.int (A.dr c1)],[.int (A.dr c2)],[.int (A.len v)],[.int (A.len g)]]) (bk (i+1)) 0)):=a;rw[<- a]at j;cbv;refine X.call (ni hr (.inr rfl) yL λr2 m=>?_);cbv;refine X.call (Pq (c:=32) m (.inr rfl) yL λM o=>?_);have Q:M= .list (dq (l++(ns.take (i+1+1)).flatMap oe)):=by rw[b,oe,<-a,<-bI,<-bI];exact o
    clear a m o;cbv;repeat' (first|apply bq|exact zf|(intro J;cbv)|apply bE)
    all_goals try exact I
    exact⟨(i+1+1,M),⟨yP,Q⟩,yP,[0,1,5,3],rfl,yc⟩
   ·have hr:r= .list (dq (l++ns.flatMap oe)):=by
     have h6:i+1=5:=by have h1:A.lt (bk (i+1)) (A.len (A.lit [[.int E],[.int (A.dr c1)],[.int (A.dr c2)],[.int (A.len v)],[.int (A.len g)]]))=false:=h1;rw[H,X.a,im]at h1;have:=of_decide_eq_false h1;simp only[bz]at this;omega
     rw[hr,h6,db yO]
    clear h1 hi hd hL H aa;cbv;refine X.call (ni (s:=c1) hr (.inr rfl) (by rw[t1];simp only[bt];omega) λW a=>?_);cbv;refine X.call (ni (s:=c2) a (.inr rfl) (by rw[t1,t2];simp only[bt];omega) λr2 m=>?_);obtain⟨w,hw⟩:∃w,w=l++ns.flatMap oe++c1++c2:=⟨_,rfl⟩;rw[<- hw]at m;have az:w.length=l.length+(ns.flatMap oe).length+t.m.length+t.n.length:=by rw[hw,t1,t2];simp[eY]
    have h:∀r,r= .list (dq (w++Ty.p9 t.ar++Ty.sv t.fl))->K (.tup []) [.box [.box 0 0,.row 5 2],.dead,.row 5 r true]:=λr e=>h r (by rw[e,hw,t1,t2];simp only[bI]);clear hr a hw;cbv;refine lP X (λy=>y.1<=N/\y.2= .list (dq (w++Ty.p9 (t.ar.take y.1)))) (λy=>N-y.1) (0,r2) ⟨bB _,by simpa[Ty.p9]using m⟩ [0,1,5,3] (λ(y:Nat×D)=>⟨[(48,.int .i64 y.1),(47,.int .i64 (A.len v)),(46,.lst 29 v),(3,.box 3 0),(0,.box 0 0)],[.box [.box 0 0,.row 5 2],.dead,.row 5 y.2 true,.box [.int .i64 E,.str c1,.str c2,.lst 29 v,.lst 57 g]]⟩) ?_;clear m;rintro⟨k,r⟩ ⟨hk,hr⟩;simp only at hk hr;cbv;constructor<;>intro h1
    ·have h5:k<t.ar.length:=lY X.a z h1;have k1:=gT X.a ai h5;have G:=iX X.a ai h5;have I:=jX X.a h5;have F:t.ar[k]∈t.er:=by simp[Ty.er]
     have b:=CJ h5;have j:=GW (l:=t.ar) (i:=k+1);rw[b,bt]at j;clear h1;cbv;refine⟨G,?_⟩;refine X.call (ih _ F (ie ab _ F) (λu hu=>ae u (jL F hu)) hr (.inr rfl) k1 (by rw[bt];omega) λM o=>?_);have Q:M= .list (dq (w++Ty.p9 (t.ar.take (k+1)))):=by rw[b,<-bI];exact o
     cbv;repeat' (first|apply bq|exact zf|(intro J;cbv)|apply bE)
     all_goals try exact I
     exact⟨(k+1,M),⟨yP,Q⟩,yP,[0,1,5,3],rfl,yc⟩
    have h5:k=N:=gY X.a z h1;rw[h5,V,bD]at hr;clear h1 hk h5;cbv;refine lP X (λy=>y.1<=O/\y.2= .list (dq (w++Ty.p9 t.ar++Ty.sv (t.fl.take y.1)))) (λy=>O-y.1) (0,r) ⟨bB _,by simpa[Ty.sv]using hr⟩ [0,1,2,3] (λ(y:Nat×D)=>⟨[(59,.int .i64 y.1),(58,.int .i64 (A.len g)),(57,.lst 57 g),(3,.box 3 0),(0,.box 0 0)],[.box [.box 0 0,.row 5 2],.dead,.row 5 y.2 true,.box [.int .i64 E,.str c1,.str c2,.lst 29 v,.lst 57 g]]⟩) ?_;clear hr;rintro⟨k,r⟩ ⟨hk,hr⟩;simp only at hk hr;cbv;constructor<;>intro h1
    ·have h5:k<t.fl.length:=lY X.a B h1;have k1:=jS X.a U h5;obtain⟨k2,k3⟩:=zK X.a U h5;have G:=iX X.a U h5;have I:=jX X.a h5;have F:t.fl[k].t∈t.er:=by simp only[Ty.er,bG,bP];exact .inr ⟨_,bu h5,rfl⟩
     have b:=CL h5;have j:=GZ (l:=t.fl) (i:=k+1);have R:t.fl[k].wr=Lib.itoa (bk (A.bH (A.cell g (bk k) 0)).length)++Lib.formatBool (A.asBool (A.cell g (bk k) 6))++A.bH (A.cell g (bk k) 0)++t.fl[k].t.wr:=by rw[k2,k3];generalize t.fl[k]=f;cases f;rfl
     rw[b,R]at j;rw[R]at b;simp only[bt]at j;have ag:A.dr (A.bH (A.cell g (bk k) 0))=bk (A.bH (A.cell g (bk k) 0)).length:=yX;have af: -9223372036854775808<=A.dr (A.bH (A.cell g (bk k) 0))/\A.dr (A.bH (A.cell g (bk k) 0))<=9223372036854775807:=by obtain⟨sl,ah⟩:∃sl,sl=(A.bH (A.cell g (bk k) 0)).length:=⟨_,rfl⟩;have aw:sl<=4294967296:=yO;rw[ag,<-ah];simp only[bz];omega
     clear h1 k2 k3 R;cbv;refine⟨G,?_⟩;refine X.call (EO af.1 af.2 λW a=>?_);have a:W=Lib.itoa (bk (A.bH (A.cell g (bk k) 0)).length):=by rw[<- ag];exact a
     rw[<- a]at j b;cbv;refine X.call (ni hr (.inr rfl) yL λr2 m=>?_);cbv;refine X.call (Sw λM o=>?_);have o:M=Lib.formatBool (A.asBool (A.cell g (bk k) 6)):=o;rw[<- o]at j b;cbv;refine X.call (ni m (.inr rfl) yL λr4 ac=>?_);cbv;refine X.call (ni (s:=A.bH (A.cell g (bk k) 0)) ac (.inr rfl) (by simp only[bt];omega) λr5 ad=>?_);cbv;refine X.call (ih _ F (ie ab _ F) (λu hu=>ae u (jL F hu)) ad (.inr rfl) k1 (by simp only[bt];omega) λr6 P=>?_);have Q:r6= .list (dq (w++Ty.p9 t.ar++Ty.sv (t.fl.take (k+1)))):=by rw[b];simp only[<- bI];(try simp only[<- bI]at P);exact P
     clear a m o ac ad P;refine p1 ?_;exact⟨(k+1,r6),⟨yP,Q⟩,yP,[0,1,8,3],rfl,yc⟩
    ·have h5:k=O:=gY X.a B h1;rw[h5,T,bD]at hr;have q:=h r hr;cbv;exact q
 ·cbv;refine lP X (λy=>y.1<=5/\y.2= .list (dq (l++(ns.take y.1).flatMap oe))) (λy=>5-y.1) (0,d) ⟨bB _,yU hd⟩ [0,1,2,3] (λ(y:Nat×D)=>⟨[(26,.int .i64 y.1),(25,.int .i64 (A.len (A.lit [[.int E],[.int (A.dr c1)],[.int (A.dr c2)],[.int (A.len v)],[.int (A.len g)]]))),(24,.nx 3 (A.lit [[.int E],[.int (A.dr c1)],[.int (A.dr c2)],[.int (A.len v)],[.int (A.len g)]])),(3,.box 3 0),(0,.box 0 0)],(UK y.1 (.box 0 0) y.2)++[.box [.int .i64 E,.str c1,.str c2,.lst 29 v,.lst 57 g]]⟩) ?_;rintro⟨i,r⟩ ⟨hi,hr⟩;simp only at hi hr;rcases i with _|i
  ·cbv;constructor<;>intro h1
   ·have h1:A.lt (bk (0)) (A.len (A.lit [[.int E],[.int (A.dr c1)],[.int (A.dr c2)],[.int (A.len v)],[.int (A.len g)]]))=true:=h1;have h6:0<ns.length:=by rw[H,X.a,im]at h1;have:=of_decide_eq_true h1;simp only[bz]at this;omega
    have G:A.idx (bk (0)) (A.len (A.lit [[.int E],[.int (A.dr c1)],[.int (A.dr c2)],[.int (A.len v)],[.int (A.len g)]])):=by rw[H,X.a,kC];simp only[bz];omega
    have I:A.inr .i64 (A.add (bk (0)) 1):=by rw[X.a];exact fm (n:=5) yO yO
    have hc:A.asInt (A.cell (A.lit [[.int E],[.int (A.dr c1)],[.int (A.dr c2)],[.int (A.len v)],[.int (A.len g)]]) (bk (0)) 0)=ns[0]:=by rw[hL,X.a,oM];simp[h6]
    have hb:=aa _ (bu h6);rw[<- hc]at hb;have b:=rB h6;rw[<- hc]at b;have j:=tP (l:=ns) (i:=0+1);rw[b]at j;simp only[oe,bt,bM,bX]at j;clear h1;cbv;refine⟨G,?_⟩;refine X.call (EO hb.1 hb.2 λW a=>?_);have a:W=Lib.itoa (A.asInt (A.cell (A.lit [[.int E],[.int (A.dr c1)],[.int (A.dr c2)],[.int (A.len v)],[.int (A.len g)]]) (bk (0)) 0)):=a;rw[<- a]at j;cbv;refine X.call (ni hr (.inr rfl) yL λr2 m=>?_);cbv;refine X.call (Pq (c:=32) m (.inr rfl) yL λM o=>?_);have Q:M= .list (dq (l++(ns.take (0+1)).flatMap oe)):=by rw[b,oe,<-a,<-bI,<-bI];exact o
    clear a m o;refine p1 ?_;exact⟨(0+1,M),⟨yP,Q⟩,yP,[0,1,5,3],rfl,yc⟩
   ·exfalso;have h1:A.lt (bk 0) (A.len (A.lit [[.int E],[.int (A.dr c1)],[.int (A.dr c2)],[.int (A.len v)],[.int (A.len g)]]))=false:=h1;rw[H,X.a]at h1;cases h1
  ·cbv;constructor<;>intro h1
   ·have h1:A.lt (bk (i+1)) (A.len (A.lit [[.int E],[.int (A.dr c1)],[.int (A.dr c2)],[.int (A.len v)],[.int (A.len g)]]))=true:=h1;have h6:i+1<ns.length:=by rw[H,X.a,im]at h1;have:=of_decide_eq_true h1;simp only[bz]at this;omega
    have G:A.idx (bk (i+1)) (A.len (A.lit [[.int E],[.int (A.dr c1)],[.int (A.dr c2)],[.int (A.len v)],[.int (A.len g)]])):=by rw[H,X.a,kC];simp only[bz];omega
    have I:A.inr .i64 (A.add (bk (i+1)) 1):=by rw[X.a];exact fm (n:=5) yO yO
    have hc:A.asInt (A.cell (A.lit [[.int E],[.int (A.dr c1)],[.int (A.dr c2)],[.int (A.len v)],[.int (A.len g)]]) (bk (i+1)) 0)=ns[i+1]:=by rw[hL,X.a,oM];simp[h6]
    have hb:=aa _ (bu h6);rw[<- hc]at hb;have b:=rB h6;rw[<- hc]at b;have j:=tP (l:=ns) (i:=i+1+1);rw[b]at j;simp only[oe,bt,bM,bX]at j;clear h1;cbv;refine⟨G,?_⟩;refine X.call (EO hb.1 hb.2 λW a=>?_);have a:W=Lib.itoa (A.asInt (A.cell (A.lit [[.int E],[.int (A.dr c1)],[.int (A.dr c2)],[.int (A.len v)],[.int (A.len g)]]) (bk (i+1)) 0)):=a;rw[<- a]at j;cbv;refine X.call (ni hr (.inr rfl) yL λr2 m=>?_);cbv;refine X.call (Pq (c:=32) m (.inr rfl) yL λM o=>?_);have Q:M= .list (dq (l++(ns.take (i+1+1)).flatMap oe)):=by rw[b,oe,<-a,<-bI,<-bI];exact o
    clear a m o;cbv;repeat' (first|apply bq|exact zf|(intro J;cbv)|apply bE)
    all_goals try exact I
    exact⟨(i+1+1,M),⟨yP,Q⟩,yP,[0,1,5,3],rfl,yc⟩
   ·have hr:r= .list (dq (l++ns.flatMap oe)):=by
     have h6:i+1=5:=by have h1:A.lt (bk (i+1)) (A.len (A.lit [[.int E],[.int (A.dr c1)],[.int (A.dr c2)],[.int (A.len v)],[.int (A.len g)]]))=false:=h1;rw[H,X.a,im]at h1;have:=of_decide_eq_false h1;simp only[bz]at this;omega
     rw[hr,h6,db yO]
    clear h1 hi hd hL H aa;cbv;refine X.call (ni (s:=c1) hr (.inr rfl) (by rw[t1];simp only[bt];omega) λW a=>?_);cbv;refine X.call (ni (s:=c2) a (.inr rfl) (by rw[t1,t2];simp only[bt];omega) λr2 m=>?_);obtain⟨w,hw⟩:∃w,w=l++ns.flatMap oe++c1++c2:=⟨_,rfl⟩;rw[<- hw]at m;have az:w.length=l.length+(ns.flatMap oe).length+t.m.length+t.n.length:=by rw[hw,t1,t2];simp[eY]
    have h:∀r,r= .list (dq (w++Ty.p9 t.ar++Ty.sv t.fl))->K (.tup []) [.box [.box 0 0,.row 5 2],.dead,.row 5 r true]:=λr e=>h r (by rw[e,hw,t1,t2];simp only[bI]);clear hr a hw;cbv;refine lP X (λy=>y.1<=N/\y.2= .list (dq (w++Ty.p9 (t.ar.take y.1)))) (λy=>N-y.1) (0,r2) ⟨bB _,by simpa[Ty.p9]using m⟩ [0,1,5,3] (λ(y:Nat×D)=>⟨[(48,.int .i64 y.1),(47,.int .i64 (A.len v)),(46,.lst 29 v),(3,.box 3 0),(0,.box 0 0)],[.box [.box 0 0,.row 5 2],.dead,.row 5 y.2 true,.box [.int .i64 E,.str c1,.str c2,.lst 29 v,.lst 57 g]]⟩) ?_;clear m;rintro⟨k,r⟩ ⟨hk,hr⟩;simp only at hk hr;cbv;constructor<;>intro h1
    ·have h5:k<t.ar.length:=lY X.a z h1;have k1:=gT X.a ai h5;have G:=iX X.a ai h5;have I:=jX X.a h5;have F:t.ar[k]∈t.er:=by simp[Ty.er]
     have b:=CJ h5;have j:=GW (l:=t.ar) (i:=k+1);rw[b,bt]at j;clear h1;cbv;refine⟨G,?_⟩;refine X.call (ih _ F (ie ab _ F) (λu hu=>ae u (jL F hu)) hr (.inr rfl) k1 (by rw[bt];omega) λM o=>?_);have Q:M= .list (dq (w++Ty.p9 (t.ar.take (k+1)))):=by rw[b,<-bI];exact o
     cbv;repeat' (first|apply bq|exact zf|(intro J;cbv)|apply bE)
     all_goals try exact I
     exact⟨(k+1,M),⟨yP,Q⟩,yP,[0,1,5,3],rfl,yc⟩
    have h5:k=N:=gY X.a z h1;rw[h5,V,bD]at hr;clear h1 hk h5;cbv;refine lP X (λy=>y.1<=O/\y.2= .list (dq (w++Ty.p9 t.ar++Ty.sv (t.fl.take y.1)))) (λy=>O-y.1) (0,r) ⟨bB _,by simpa[Ty.sv]using hr⟩ [0,1,2,3] (λ(y:Nat×D)=>⟨[(59,.int .i64 y.1),(58,.int .i64 (A.len g)),(57,.lst 57 g),(3,.box 3 0),(0,.box 0 0)],[.box [.box 0 0,.row 5 2],.dead,.row 5 y.2 true,.box [.int .i64 E,.str c1,.str c2,.lst 29 v,.lst 57 g]]⟩) ?_;clear hr;rintro⟨k,r⟩ ⟨hk,hr⟩;simp only at hk hr;cbv;constructor<;>intro h1
    ·have h5:k<t.fl.length:=lY X.a B h1;have k1:=jS X.a U h5;obtain⟨k2,k3⟩:=zK X.a U h5;have G:=iX X.a U h5;have I:=jX X.a h5;have F:t.fl[k].t∈t.er:=by simp only[Ty.er,bG,bP];exact .inr ⟨_,bu h5,rfl⟩
     have b:=CL h5;have j:=GZ (l:=t.fl) (i:=k+1);have R:t.fl[k].wr=Lib.itoa (bk (A.bH (A.cell g (bk k) 0)).length)++Lib.formatBool (A.asBool (A.cell g (bk k) 6))++A.bH (A.cell g (bk k) 0)++t.fl[k].t.wr:=by rw[k2,k3];generalize t.fl[k]=f;cases f;rfl
     rw[b,R]at j;rw[R]at b;simp only[bt]at j;have ag:A.dr (A.bH (A.cell g (bk k) 0))=bk (A.bH (A.cell g (bk k) 0)).length:=yX;have af: -9223372036854775808<=A.dr (A.bH (A.cell g (bk k) 0))/\A.dr (A.bH (A.cell g (bk k) 0))<=9223372036854775807:=by obtain⟨sl,ah⟩:∃sl,sl=(A.bH (A.cell g (bk k) 0)).length:=⟨_,rfl⟩;have aw:sl<=4294967296:=yO;rw[ag,<-ah];simp only[bz];omega
     clear h1 k2 k3 R;cbv;refine⟨G,?_⟩;refine X.call (EO af.1 af.2 λW a=>?_);have a:W=Lib.itoa (bk (A.bH (A.cell g (bk k) 0)).length):=by rw[<- ag];exact a
     rw[<- a]at j b;cbv;refine X.call (ni hr (.inr rfl) yL λr2 m=>?_);cbv;refine X.call (Sw λM o=>?_);have o:M=Lib.formatBool (A.asBool (A.cell g (bk k) 6)):=o;rw[<- o]at j b;cbv;refine X.call (ni m (.inr rfl) yL λr4 ac=>?_);cbv;refine X.call (ni (s:=A.bH (A.cell g (bk k) 0)) ac (.inr rfl) (by simp only[bt];omega) λr5 ad=>?_);cbv;refine X.call (ih _ F (ie ab _ F) (λu hu=>ae u (jL F hu)) ad (.inr rfl) k1 (by simp only[bt];omega) λr6 P=>?_);have Q:r6= .list (dq (w++Ty.p9 t.ar++Ty.sv (t.fl.take (k+1)))):=by rw[b];simp only[<- bI];(try simp only[<- bI]at P);exact P
     clear a m o ac ad P;refine p1 ?_;exact⟨(k+1,r6),⟨yP,Q⟩,yP,[0,1,8,3],rfl,yc⟩
    ·have h5:k=O:=gY X.a B h1;rw[h5,T,bD]at hr;have q:=h r hr;cbv;exact q
end Go.VC.cG
namespace Go.VC
def SS(t:Ty):t.wr≠[]:=by cases t;rw[Ty.wr,oe];simp
abbrev lH(d:Int)(a1 a2:S)(a3 a4:D)(b:Int)(b1 b2:S)(a c:D):PV:=.agg [.int .i64 d,.str a1,.str a2,.lst 29 a3,.lst 57 a4,.int .i64 b,.str b1,.str b2,.lst 29 a,.lst 57 c]
end Go.VC
namespace Go.VC.cG
open Go Go.VC Go.Proofs Go.Shelf
def Uv:ea:={tt:=tt,n:=11,own:=[3],live:=[163,132]}
def ZK{s t:Ty}(hs:Ty.le 4294967295 s)(o:Ty.le 4294967295 t)(e:∀u∈s.all,0<=u.k/\u.k<=10)(g:∀u∈t.all,0<=u.k/\u.k<=10)(hl:s.wr.length+t.wr.length<=4294967296)
 {i:Int}{a1 a2:S}{a3 a4:D}{j:Int}{b1 b2:S}{n m:D} (ha:cD s i a1 a2 a3 a4) (hb:cD t j b1 b2 n m) {K:PV->List Ob->Prop} (h:∀r,r=s.wr++t.wr->K (.str r) []):
 FT 101 [] [lH i a1 a2 a3 a4 j b1 b2 n m] K:=by
 refine en Uv Tryz.func101 λA C L X=>?_;cbv;refine X.call (VP s hs e (l:=[]) rfl (.inl rfl) ha yQ λp c=>?_);cbv;refine X.call (VP t o g c (.inr rfl) hb (yU hl) λr2 b=>?_);obtain⟨key,a⟩:∃k,k=s.wr++t.wr:=⟨_,rfl⟩;have b:r2= .list (dq key):=by rw[a];simpa using b
 have d:key≠[]:=by rw[a];simp[SS]
 have f:key.length<=4294967296:=by rw[a];simpa using hl
 have q:=h key a;clear c a h;cbv;refine X.call (Sv d f b rfl ?_);cbv;exact q
end Go.VC.cG
namespace Go.VC
abbrev fO(de dc a b:D):List Ob:=[.box [.box 1 0],.box [.lst 97 de,.lst 73 dc,.mp 2,.row 9 3],.map .str 4 a,.row 9 b true]
abbrev Wk(de dc a b:D):List Ob:=[.box [.box 1 0],.box [.lst 97 de,.lst 73 dc,.mp 2,.row 9 4],.map .str 4 a,.dead,.row 9 b true]
end Go.VC
namespace Go.VC.cG
open Go Go.VC Go.Proofs
def Uu:ea:={tt:=tt,n:=31,n0:=4,view:=[10],own:=[28],live:=[0],qC:=[22]}
def Sy{de dc g d:D}{m:List (S×Bool)}{tr:List S}(t:g=bA cO m)(r:d=bA encS tr)(B:tr.length<=4294967290){k:Nat}{x:Int}(E:x=bk k)(hk:k<=tr.length)(o:0<tr.length)
 {K:PV->List Ob->Prop} (h:∀p j,p=bA cO (oN m (tr.drop k))->j=bA encS (tr.take k)->K (.tup []) (Wk de dc p j)):
 FT 102 (fO de dc g d) [.int .i64 x,.box 0 0] K:=by
 subst E;refine el Uu Tryz.func102 λA C L X=>?_;obtain⟨n,v⟩:∃n,n=tr.length:=⟨_,rfl⟩;have c:Std.len d=bk n:=by rw[r,da,v];rfl
 have h0:A.idx 0 (A.len d):=by rw[X.a,r];exact cY (i:=0) o
 have s:A.gh (bk k) (A.len d):=by rw[X.a,c];simp only[SD];omega
 refine p1 ?_;refine lP X (λy=>y.1<=n-k/\y.2=bA cO (oN m ((tr.drop k).take y.1))) (λy=>n-k-y.1) (0,g) ⟨bB _,by simp[oN,t]⟩ [0,1,2,3,4] (λ(y:Nat×D)=>⟨[(12,.int .i64 y.1),(11,.int .i64 (A.sub (A.len d) (bk k))),(10,.fH 9 4 (bk k) 1000003),(1,.box 0 0),(0,.int .i64 (bk k))],[.box [.box 1 0],.box [.lst 97 de,.lst 73 dc,.mp 2,.row 9 4],.map .str 4 y.2,.dead,.row 9 d true]⟩) ?_;rintro⟨i,g⟩ ⟨w,e⟩;simp only at w e;cbv;constructor<;>intro h1
 ·have h5:i<n-k:=by obtain rfl:=X.a;simp only[c,SD]at h1;omega
  have h6:k+i<tr.length:=yO;have z:A.idx (bk i) (A.sub (A.len d) (bk k)):=by rw[X.a,c];exact⟨yL,by show _<bk n-bk k;simp only[bz];omega⟩
  have u:A.inr .i64 (A.add (bk i) 1):=by rw[X.a];exact fm (n:=n) yO yO
  have e1:A.bH (A.cell d (A.add (bk k) (bk i)) 0)=tr[k+i]:=by have:A.add (bk k) (bk i)=bk (k+i):=yX;rw[this];exact tv X.a r h6
  have e2:A.FX g (.str (A.bH (A.cell d (A.add (bk k) (bk i)) 0)))=bA cO (oN m ((tr.drop k).take (i+1))):=by
   rw[e1,X.a,e,MO,<-Gu]
   congr 2
   rw[cb yQ];simp
  clear h1;refine p1 ?_;exact⟨(i+1,_),⟨yP,e2⟩,yP,[0,1,2,3,4],rfl,yc⟩
 ·have h5:i=n-k:=by obtain rfl:=X.a;simp only[c,SD]at h1;omega
  have e3:A.part d 0 (bk k)=bA encS (tr.take k):=by rw[X.a,r];have:=oQ (f:=encS) (l:=tr) (a:=0) (b:=k);simpa using this
  have q:=h g _ (by rw[e,h5,db yQ]) e3;clear h1;cbv;repeat' (first|apply bq|exact zf|(intro J;cbv)|apply bE)
  all_goals first|exact h0|exact s|exact q|skip
  all_goals trace_state
end Go.VC.cG
namespace Go.VC
def K9(i:IF)(g:List S)(t:Ty):Bool:=t.k==10&&(match iQ i t.m t.n with|some e=>g.contains e|none=>false)
def lC(i:IF)(n:S):List U:=((ta i n).getD TE.zero).lower.gS++((ta i n).getD TE.zero).upper.gS
def Gt(i:IF)(n e:S):Prop:=∃u∈lC i n,iQ i u.1 u.2=some e
def wY:TE.zero.lower.gS++TE.zero.upper.gS=[]:=by simp[TE.zero,Ty.zero,Ty.gS,Ty.z8,Ty.Aa]
end Go.VC
namespace Go.VC.cG
open Go Go.VC Go.Proofs
def Vr{i:IF}(x:i.ok){m:List (S×TE)}(y:TM m i){d n k:D}(p:d=bA dC [i])(hT:n=bA (fx fY) m){g:List S}(s:k=bA encS g)(c:g.length<=4294967295)
 {t:Ty}{a:Int}{c1 c2:S}{l o:D}{K:PV->List Ob->Prop} (r:cD t a c1 c2 l o) (h:∀b,b=K9 i g t->K (.bool b) []):
 FT 333 [] [.agg [.lst 97 d,.dmp 136 n,.undef],dO a c1 c2 l o,.lst 9 k] K:=by
 obtain⟨u,v,q,z,w⟩:=r;unfold K9 at h;rw[<- u,<-v,<-q]at h;refine en (cf 29) Tryz.func333 λA C L X=>?_;have Z:=qH X.a;cbv;refine X.call (Sh x y p hT λe b hb he=>?_);have j:b=false->iQ i c1 c2=none:=λh=>by rw[h]at hb;simpa using hb.symm
 cbv;repeat' (first|apply bq|exact zf|(intro J;cbv)|apply bE|(refine X.call (Sa s c λb2 f=>?_);cbv))
 ·have e1:A.eq a 10=true:=yA;have e2:b=true:=yA;rw[Z]at e1;refine h _ ?_;rw[e1,he e2,f];rfl
 ·have e1:A.eq a 10=true:=yA;have e2:b=false:=yA;rw[Z]at e1;refine h _ ?_;rw[j e2,iI]
 ·have e1:A.eq a 10=false:=yA;rw[Z]at e1;refine h _ ?_;rw[e1,n9]
end Go.VC.cG
namespace Go.VC
section
variable {A:pM}{i:IF}{us:List U}{l:List S}
def PN(ha:A=Std){a:D}{m:List (S×TE)}(hT:a=bA (fx fY) m){k:S}{x:TE}(h:fJ m k=some x):
 o4 x (A.bH (A.fc a (.str k) 0)) (A.fc a (.str k) 1) (A.asInt (A.fc a (.str k) 2)) (A.bH (A.fc a (.str k) 3)) (A.bH (A.fc a (.str k) 4)) (A.fc a (.str k) 5) (A.fc a (.str k) 6) (A.asInt (A.fc a (.str k) 7)) (A.bH (A.fc a (.str k) 8)) (A.bH (A.fc a (.str k) 9)) (A.fc a (.str k) 10) (A.fc a (.str k) 11):=by
 subst ha hT;simp only[ly h,oK];exact⟨rfl,rfl,⟨rfl,rfl,rfl,rfl,rfl⟩,rfl,rfl,rfl,rfl,rfl⟩
def Lj(ha:A=Std){t u:Ty}{c2:Int}{e j:S}{g h:D}{d:Int}{f c:S}{a b:D}(k:cD t c2 e j g h)(hu:cD u d f c a b):
 A.lit [[.int c2,.str e,.str j,g,h],[.int d,.str f,.str c,a,b]]=bA cq [t,u]:=by
 subst ha;obtain⟨rfl,rfl,rfl,rfl,rfl⟩:=k;obtain⟨rfl,rfl,rfl,rfl,rfl⟩:=hu;rw[show bA cq [t,u]=D.list [cq t,cq u]from rfl,dk,dk];rfl
def iv(i:IF)(us:List U)(l:List S):Prop:=(∀e,e∈l↔∃u∈us,iQ i u.1 u.2=some e)/\l.length<=us.length
def iv.nil(i:IF):iv i [] []:=⟨yS,yS⟩
def iv.app{vs a:List U}{k:List S}(h:iv i us l)(hk:iv i vs k)(b:∀u,u∈vs↔u∈a)(hl:vs.length<=a.length):iv i (us++a) (l++k):=by
 refine⟨λe=>?_,?_⟩
 ·rw[bG,h.1,hk.1];constructor
  ·rintro(⟨u,hu,he⟩|⟨u,hu,he⟩)
   ·exact⟨u,dF _ hu,he⟩
   ·exact⟨u,dI _ ((b u).1 hu),he⟩
  ·rintro⟨u,hu,he⟩;rcases bG.1 hu with hu|hu
   ·exact .inl ⟨u,hu,he⟩
   ·exact .inr ⟨u,(b u).2 hu,he⟩
 ·have:=h.2;have:=hk.2;simp only[bt];omega
def iv.step{u:U}(h:iv i us l):(∀e,iQ i u.1 u.2=some e->iv i (us++[u]) (l++[e]))/\(iQ i u.1 u.2=none->iv i (us++[u]) l):=by
 refine⟨λe he=>⟨λx=>?_,?_⟩,λc=>⟨λx=>?_,?_⟩⟩
 ·rw[bG,h.1,df];constructor
  ·rintro(⟨v,a,b⟩|rfl)
   ·exact⟨v,dF _ a,b⟩
   ·exact⟨u,yS,he⟩
  ·rintro⟨v,a,b⟩;rcases bG.1 a with a|a
   ·exact .inl ⟨v,a,b⟩
   ·rw[df]at a;subst a;rw[he]at b;cases b;exact .inr rfl
 ·have:=h.2;simp only[bt,dJ];omega
 ·rw[h.1];constructor
  ·rintro⟨v,a,b⟩;exact⟨v,dF _ a,b⟩
  ·rintro⟨v,a,b⟩;rcases bG.1 a with a|a
   ·exact⟨v,a,b⟩
   ·rw[df]at a;subst a;rw[c]at b;cases b
 ·have:=h.2;simp only[bt,dJ];omega
end
end Go.VC
namespace Go.VC.cG
open Go Go.VC Go.Proofs
def TG:ea:={tt:=tt,n:=51,own:=[5]}
def Vs{i:IF}(hi:i.ok)(fh:∀x∈i.types,x.lower.size<=1048576/\x.upper.size<=1048576){m:List (S×TE)}(hm:TM m i){d G:D}(hd:d=bA dC [i])(hT:G=bA (fx fY) m){n:S}{K:PV->List Ob->Prop}
 (h:∀l r,r=bA encS l->iv i (lC i n) l->K (.row 9 0) [.row 9 r true]):
 FT 332 [] [.agg [.lst 97 d,.dmp 136 G,.undef],.str n] K:=by
 refine eo TG Tryz.func332 λA C L X=>?_;have Q:A.mJ G (.str n)=(ta i n).isSome:=by rw[X.a,hT,lx,hm.get]
 have af:∀x,ta i n=some x->fJ m n=some x:=λx hx=>by rw[hm.get,hx]
 cbv;constructor<;>intro h1
 ·rw[Q]at h1;obtain⟨x,hx⟩:=eQ.1 h1;have kx:=PN X.a hT (af x hx);have ak:=kx.2.2.1;have ap:=kx.2.2.2;have ah:x∈i.types:=eb hx;have ar:Ty.le 4294967295 x.lower/\x.lower.size<=1048576:=⟨(hi.t x ah).lo,(fh x ah).1⟩;have al:Ty.le 4294967295 x.upper/\x.upper.size<=1048576:=⟨(hi.t x ah).up,(fh x ah).2⟩;have F:lC i n=[x.lower,x.upper].flatMap Ty.gS:=by rw[lC,hx];simp
  clear h1 Q af;obtain⟨H,z⟩:∃H,H=A.lit [[.int (A.asInt (A.fc G (.str n) 2)),.str (A.bH (A.fc G (.str n) 3)),.str (A.bH (A.fc G (.str n) 4)),A.fc G (.str n) 5,A.fc G (.str n) 6],[.int (A.asInt (A.fc G (.str n) 7)),.str (A.bH (A.fc G (.str n) 8)),.str (A.bH (A.fc G (.str n) 9)),A.fc G (.str n) 10,A.fc G (.str n) 11]]:=⟨_,rfl⟩;have B:H=bA cq [x.lower,x.upper]:=z.trans (Lj X.a ak ap);obtain⟨ts,O⟩:∃ts,ts=[x.lower,x.upper]:=⟨_,rfl⟩;have aD:ts.length=2:=by rw[O];rfl
  have E:∀t∈ts,Ty.le 4294967295 t/\t.size<=1048576:=by rw[O];intro t R;simp at R;rcases R with rfl|rfl;exact ar;exact al
  rw[<- O]at B F;obtain⟨p,M,g⟩:=lenOf B;cbv
  refine X.j0 (λ(y:Nat×D)=>⟨[(23,.int .i64 y.1),(22,.int .i64 (A.len H)),(21,.lst 29 H),(5,.row 9 1),(2,.box 0 0)],[.box [.lst 97 d,.dmp 136 G,.undef],.row 9 y.2 true]⟩)
   (λy=>y.1<=p/\∃l,y.2=bA encS l/\iv i ((ts.take y.1).flatMap Ty.gS) l) (λy=>p-y.1) (0,.list []) ⟨bB _,[],rfl,iv.nil i⟩ ?_ ?_
  ·refine⟨[0,1],rfl,?_⟩
   (cbv;repeat' apply bq);all_goals try first|trivial|rfl|(rw[X.a];rfl)
   all_goals first|exact z.symm|exact congrArg A.len z.symm
  rintro⟨k,r⟩ ⟨hk,l,hr,hl⟩;simp only at hk hr hl;cbv;constructor<;>intro h1
  ·have h5:k<ts.length:=lY X.a g h1;have k1:=gT X.a B h5;have ay:=iX X.a B h5;have aw:=jX X.a h5;obtain⟨ae,ac⟩:=E _ (bu h5);cbv;repeat' (first|apply bq|exact zf|(intro J;cbv)|apply bE)
   any_goals exact ay
   refine X.call (Sp ae (bQ ac yD) k1 λlu T N am ad=>?_);have aE:=kf ts[k];have aj:lu.length<=ts[k].gS.length:=fv (s6 am) λu hu=>(ad u).1 hu
   have aC:((ts.take k).flatMap Ty.gS).length<=2097152:=by
    rw[nj]
    have:∀q:List Ty,(∀t∈q,t.size<=1048576)->(q.map λt=>t.gS.length).sum<=q.length*1048576:=by
     intro q;induction q with
     |nil=>simp
     |cons t q ih=>intro hq;have a:=ih λt R=>hq t (by simp[R]);have b:=kf t;have c:=hq t yS;simp only[bJ,cm,bM];omega
    have e:=this (ts.take k) λt R=>(E t (mq R)).2;have f:(ts.take k).length<=2:=by rw[cJ];omega
    omega
   have aF:=hl.2;obtain⟨w,P,o⟩:=lenOf N;clear h1;cbv
   refine X.j0 (λ(y:Nat×D)=>⟨[(30,.int .i64 y.1),(29,.int .i64 (A.len T)),(28,.lst 259 T),(23,.int .i64 k),(22,.int .i64 (A.len H)),(21,.lst 29 H),(5,.row 9 1),(2,.box 0 0)],[.box [.lst 97 d,.dmp 136 G,.undef],.row 9 y.2 true]⟩)
    (λy=>y.1<=w/\∃l2,y.2=bA encS (l++l2)/\iv i (lu.take y.1) l2) (λy=>w-y.1) (0,r) ⟨bB _,[],by rw[cA];exact hr,iv.nil i⟩ ?_ ?_
   ·exact⟨[0,1],rfl,yc⟩
   rintro⟨j,r2⟩ ⟨hj,l2,s,v⟩;simp only at hj s v;cbv;constructor<;>intro h1
   ·have h6:j<lu.length:=lY X.a o h1;obtain⟨an,ao⟩:=Ws X.a N h6;have ai:=iX X.a N h6;have ag:=jX X.a h6;have aa:=v.2;have ax:l2.length<=2097152:=by rw[cJ]at aa;omega
    have I:=v.step (u:=lu[j]);rw[<- cb h6]at I;have au:∀e:S,A.gh (A.add (A.len r2) (A.len (A.lit [[.str e]]))) 4294967296:=by intro e;rw[X.a,s];simp only[SD,bL];omega
    have V:∀e:S,A.app r2 (A.lit [[.str e]])=bA encS (l++(l2++[e])):=by intro e;rw[X.a,s,<-bI];exact cB (k:=[e])
    clear h1;cbv;repeat' (first|apply bq|exact zf|(intro J;cbv)|apply bE)
    any_goals exact ai
    refine X.call (Sh hi hm hd hT λe b hb he=>?_);have hb:b=(iQ i (A.bH (A.cell T (bk j) 0)) (A.bH (A.cell T (bk j) 1))).isSome:=hb;have he:b=true->iQ i (A.bH (A.cell T (bk j) 0)) (A.bH (A.cell T (bk j) 1))=some e:=he;rw[an,ao]at hb he;cbv;repeat' (first|apply bq|exact zf|(intro J;cbv)|apply bE)
    any_goals exact ag
    any_goals exact au e
    ·have e2:b=true:=yA;exact⟨(j+1,_),⟨yP,l2++[e],V e,I.1 e (he e2)⟩,yP,[0,1],rfl,yc⟩
    ·have e2:b=false:=yA;rw[e2]at hb;exact⟨(j+1,r2),⟨yP,l2,s,I.2 (yU hb.symm)⟩,yP,[0,1],rfl,yc⟩
   ·have h6:j=w:=gY X.a o h1;rw[h6,P,bD]at v;have ab:iv i ((ts.take (k+1)).flatMap Ty.gS) (l++l2):=by rw[gk h5];exact hl.app v ad aj
    cbv;repeat' (first|apply bq|exact zf|(intro J;cbv)|apply bE)
    any_goals exact aw
    refine⟨(k+1,r2),⟨yP,l++l2,s,ab⟩,yP,[0,1],rfl,?_⟩;exact yc
  ·have h5:k=p:=gY X.a g h1;rw[h5,M,bD,<-F]at hl;cbv;exact h l r hr hl
 ·rw[Q]at h1;have hx:ta i n=none:=yU h1;obtain⟨x,W⟩:∃x,x=TE.zero:=⟨_,rfl⟩;have ak:cD x.lower 0 [] [] (.list []) (.list []):=by rw[W];exact⟨rfl,rfl,rfl,rfl,rfl⟩
  have ap:cD x.upper 0 [] [] (.list []) (.list []):=by rw[W];exact⟨rfl,rfl,rfl,rfl,rfl⟩
  have ar:Ty.le 4294967295 x.lower/\x.lower.size<=1048576:=by rw[W];exact⟨od.lo,yD⟩
  have al:Ty.le 4294967295 x.upper/\x.upper.size<=1048576:=by rw[W];exact⟨od.up,yD⟩
  have F:lC i n=[x.lower,x.upper].flatMap Ty.gS:=by rw[lC,hx,W];simp
  clear h1 Q af;obtain⟨H,z⟩:∃H,H=A.lit [[.int 0,.str [],.str [],.list [],.list []],[.int 0,.str [],.str [],.list [],.list []]]:=⟨_,rfl⟩;have B:H=bA cq [x.lower,x.upper]:=z.trans (Lj X.a ak ap);obtain⟨ts,O⟩:∃ts,ts=[x.lower,x.upper]:=⟨_,rfl⟩;have aD:ts.length=2:=by rw[O];rfl
  have E:∀t∈ts,Ty.le 4294967295 t/\t.size<=1048576:=by rw[O];intro t R;simp at R;rcases R with rfl|rfl;exact ar;exact al
  rw[<- O]at B F;obtain⟨p,M,g⟩:=lenOf B;cbv
  refine X.j0 (λ(y:Nat×D)=>⟨[(23,.int .i64 y.1),(22,.int .i64 (A.len H)),(21,.lst 29 H),(5,.row 9 1),(2,.box 0 0)],[.box [.lst 97 d,.dmp 136 G,.undef],.row 9 y.2 true]⟩)
   (λy=>y.1<=p/\∃l,y.2=bA encS l/\iv i ((ts.take y.1).flatMap Ty.gS) l) (λy=>p-y.1) (0,.list []) ⟨bB _,[],rfl,iv.nil i⟩ ?_ ?_
  ·refine⟨[0,1],rfl,?_⟩
   (cbv;repeat' apply bq);all_goals try first|trivial|rfl|(rw[X.a];rfl)
   all_goals first|exact z.symm|exact congrArg A.len z.symm
  rintro⟨k,r⟩ ⟨hk,l,hr,hl⟩;simp only at hk hr hl;cbv;constructor<;>intro h1
  ·have h5:k<ts.length:=lY X.a g h1;have k1:=gT X.a B h5;have ay:=iX X.a B h5;have aw:=jX X.a h5;obtain⟨ae,ac⟩:=E _ (bu h5);refine p1 ?_;refine X.call (Sp ae (bQ ac yD) k1 λlu T N am ad=>?_);have aE:=kf ts[k];have aj:lu.length<=ts[k].gS.length:=fv (s6 am) λu hu=>(ad u).1 hu
   have aC:((ts.take k).flatMap Ty.gS).length<=2097152:=by
    rw[nj]
    have:∀q:List Ty,(∀t∈q,t.size<=1048576)->(q.map λt=>t.gS.length).sum<=q.length*1048576:=by
     intro q;induction q with
     |nil=>simp
     |cons t q ih=>intro hq;have a:=ih λt R=>hq t (by simp[R]);have b:=kf t;have c:=hq t yS;simp only[bJ,cm,bM];omega
    have e:=this (ts.take k) λt R=>(E t (mq R)).2;have f:(ts.take k).length<=2:=by rw[cJ];omega
    omega
   have aF:=hl.2;obtain⟨w,P,o⟩:=lenOf N;clear h1;cbv
   refine X.j0 (λ(y:Nat×D)=>⟨[(30,.int .i64 y.1),(29,.int .i64 (A.len T)),(28,.lst 259 T),(23,.int .i64 k),(22,.int .i64 (A.len H)),(21,.lst 29 H),(5,.row 9 1),(2,.box 0 0)],[.box [.lst 97 d,.dmp 136 G,.undef],.row 9 y.2 true]⟩)
    (λy=>y.1<=w/\∃l2,y.2=bA encS (l++l2)/\iv i (lu.take y.1) l2) (λy=>w-y.1) (0,r) ⟨bB _,[],by rw[cA];exact hr,iv.nil i⟩ ?_ ?_
   ·exact⟨[0,1],rfl,yc⟩
   rintro⟨j,r2⟩ ⟨hj,l2,s,v⟩;simp only at hj s v;cbv;constructor<;>intro h1
   ·have h6:j<lu.length:=lY X.a o h1;obtain⟨an,ao⟩:=Ws X.a N h6;have ai:=iX X.a N h6;have ag:=jX X.a h6;have aa:=v.2;have ax:l2.length<=2097152:=by rw[cJ]at aa;omega
    have I:=v.step (u:=lu[j]);rw[<- cb h6]at I;have au:∀e:S,A.gh (A.add (A.len r2) (A.len (A.lit [[.str e]]))) 4294967296:=by intro e;rw[X.a,s];simp only[SD,bL];omega
    have V:∀e:S,A.app r2 (A.lit [[.str e]])=bA encS (l++(l2++[e])):=by intro e;rw[X.a,s,<-bI];exact cB (k:=[e])
    clear h1;refine p1 ?_;refine X.call (Sh hi hm hd hT λe b hb he=>?_);have hb:b=(iQ i (A.bH (A.cell T (bk j) 0)) (A.bH (A.cell T (bk j) 1))).isSome:=hb;have he:b=true->iQ i (A.bH (A.cell T (bk j) 0)) (A.bH (A.cell T (bk j) 1))=some e:=he;rw[an,ao]at hb he;cbv;repeat' (first|apply bq|exact zf|(intro J;cbv)|apply bE)
    any_goals exact ag
    any_goals exact au e
    ·have e2:b=true:=yA;exact⟨(j+1,_),⟨yP,l2++[e],V e,I.1 e (he e2)⟩,yP,[0,1],rfl,yc⟩
    ·have e2:b=false:=yA;rw[e2]at hb;exact⟨(j+1,r2),⟨yP,l2,s,I.2 (yU hb.symm)⟩,yP,[0,1],rfl,yc⟩
   ·have h6:j=w:=gY X.a o h1;rw[h6,P,bD]at v;have ab:iv i ((ts.take (k+1)).flatMap Ty.gS) (l++l2):=by rw[gk h5];exact hl.app v ad aj
    refine p1 ?_;exact⟨(k+1,r2),⟨yP,l++l2,s,ab⟩,yP,[0,1],rfl,yc⟩
  ·have h5:k=p:=gY X.a g h1;rw[h5,M,bD,<-F]at hl;cbv;exact h l r hr hl
end Go.VC.cG
