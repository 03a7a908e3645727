/- Part 10 of the common texts. -/
import Derived.Test.YtflmompnagpjeaaGreatDoorPart9
set_option linter.all false
set_option maxRecDepth 100000
set_option maxHeartbeats 16000000
open And renaming intro→bq
open Eq renaming trans→iu
open Int renaming ofNat→bk,ofNat_eq_natCast→bz
open List renaming append_assoc→bI,append_inj→rW,append_nil→cA,cons_append→dP,drop_eq_getElem_cons→bF,drop_length→cd,find?_cons→cH,foldl_cons→fB,foldl_nil→CE,getElem_mem→bu,length_append→bt,length_cons→bM,length_filter_le→lO,length_map→bL,length_nil→bX,mem_append→bG,mem_append_left→dF,mem_map→bP,mem_singleton→df,nil_append→jg,nodup_append→cV,take_append_drop→cX,take_length→bD
open List.cons renaming inj→jK,injEq→gN
open Nat renaming le_refl→cg,lt_of_le_of_lt→jd,mul_le_mul→oS,zero_le→bB
open Or renaming inl→bE
open Prod renaming ext→dR
namespace Go.VC.cG
open Go Go.VC Go.Proofs
section
variable {env:List IF}{de dc d j a3 a4 f g:D}{wr:Bool}{s t:Ty}{a c:Int}{a1 a2 b1 b2:S}{K:PV->List Ob->Prop}
def WX:ea:={tt:=tt,n:=31,n0:=3,qC:=[21,22,23],own:=[4,28],nh:=[3]}
def F70(he:de=bA dC env)(ek:eH env)(c8:Ty.le 4294967295 t)(hs:cD s a a1 a2 a3 a4)(u:cD t c b1 b2 f g)
 (h:∀r b,me (xQ env s t) r b->K (.tup [.row 50 3,.bool b]) (JQ de dc d j wr r)):
 FT 70 (qP de dc d j wr) [.box 0 0,lH a a1 a2 a3 a4 c b1 b2 f g] K:=by
 refine el WX Tryz.func70 λA C L X=>?_;have Y:=fz X.a;have Z:=qH X.a;have k:A.not (A.eq c 10)= !(t.k==10):=by rw[Y,Z,u.1]
 unfold xQ at h;by_cases hk:t.k=10
 ·have k:A.not (A.eq c 10)=false:=by rw[k,hk];rfl
  cbv;repeat' (first|apply bq|exact zf|(intro J;first|exact yB k J|cbv)|apply bE)
  refine X.cut (λ(z:(Int×S×S×D×D)×Int)=>⟨[(8,.int .i64 z.2),(6,.box 5 0),(3,.box 4 0)],[.box [.lst 97 de,.lst 73 dc,.row 9 3,.mp 2],.dead,.map .str 4 j,.row 9 d wr,.box [.int .i64 a,.str a1,.str a2,.lst 29 a3,.lst 57 a4,.int .i64 c,.str b1,.str b2,.lst 29 f,.lst 57 g],.box [.int .i64 z.1.1,.str z.1.2.1,.str z.1.2.2.1,.lst 29 z.1.2.2.2.1,.lst 57 z.1.2.2.2.2]]⟩)
   (λz=>cD (cQ env t).1 z.1.1 z.1.2.1 z.1.2.2.1 z.1.2.2.2.1 z.1.2.2.2.2/\z.2=(cQ env t).2.2) ?_ ?_
  ·cbv;repeat' (first|apply bq|exact zf|(intro J;cbv)|apply bE|(refine X.call (Py he ek c8 u λn p m l o g0 g1 g2 g3 g4 r i v hr=>?_);cbv))
   all_goals first
    |(exact⟨((n,p,m,l,o),r),⟨i,hr⟩,[0,1,2,3,4,6],rfl,yc⟩
      done)
    |(exact⟨((n,p,m,l,o),r),⟨i,hr⟩,[0,1,2,3,4,7],rfl,yc⟩
      done)
    |trace_state
  rintro⟨⟨n,p,m,l,o⟩,r⟩ ⟨i,hr⟩;simp only at i hr
  have q:=h (A.lit [[.int a,.str a1,.str a2,a3,a4,.int n,.str p,.str m,l,o]]) (A.eq r 0) (by
   rw[Z,hr];by_cases e:(cQ env t).2.2=0
   ·rw[if_pos e,e];refine me.yes rfl ?_;refine iu (congrArg (λz=>A.lit [z]) (j5 hs i)) ?_;rw[X.a];rfl
   ·rw[if_neg e];have:((cQ env t).2.2==0)=false:=yU e;rw[this];exact me.no rfl)
  cbv;exact q
 ·have k:A.not (A.eq c 10)=true:=by rw[k];simpa using hk
  have q:=λr=>h r false (me.no (by rw[if_neg (A8 hk)]));cbv;repeat' (first|apply bq|exact zf|(intro J;first|exact yB k J|cbv)|apply bE)
  exact q _
def WY:ea:={tt:=tt,n:=58,n0:=3,qC:=[48,49,50],own:=[4,36,57],nh:=[10]}
def F69(he:de=bA dC env)(ek:eH env){ctx:List Pm}(hc:dc=bA eU ctx)(mZ:ctx.length<=1048576)(M:Ty.le 4294967295 s)(hs:cD s a a1 a2 a3 a4)(N:cD t c b1 b2 f g)
 (h:∀r b,me (tK env ctx s t) r b->K (.tup [.row 50 3,.bool b]) (JQ de dc d j wr r)):
 FT 69 (qP de dc d j wr) [.box 0 0,lH a a1 a2 a3 a4 c b1 b2 f g] K:=by
 obtain⟨Q,s1,W,_,_⟩:=id hs;have l:jB env ctx s=none->∀r,K (.tup [.row 50 3,.bool false]) (JQ de dc d j wr r):=λe r=>h r false (me.no (by unfold tK;rw[e];rfl));have k:∀u r,jB env ctx s=some u->r=bA eB [(u,t)]->K (.tup [.row 50 3,.bool true]) (JQ de dc d j wr r):=λu r e V=>h r true (me.yes (by unfold tK;rw[e];rfl) V);clear h;unfold jB at l k;refine el WY Tryz.func69 λA C L X=>?_;have Y:=fz X.a;have Z:=qH X.a;have G:=Nw X.a;have w:A.eq a 9=(s.k==9):=by rw[Z,Q]
 have n:A.eq a 10=(s.k==10):=by rw[Z,Q]
 by_cases o:s.k=10
 ·rw[if_pos o]at l k;have w:A.eq a 9=false:=by rw[w,o];rfl
  have n:A.eq a 10=true:=by rw[n,o];rfl
  cbv;repeat' (first|apply bq|exact zf|(intro J;first|exact yB w J|exact yB n J|cbv)|apply bE)
  refine X.cut (λ(z:(Int×S×S×D×D)×Int)=>⟨[(10,.int .i64 z.2),(9,.box 5 0),(3,.box 4 0)],[.box [.lst 97 de,.lst 73 dc,.row 9 3,.mp 2],.dead,.map .str 4 j,.row 9 d wr,.box [.int .i64 a,.str a1,.str a2,.lst 29 a3,.lst 57 a4,.int .i64 c,.str b1,.str b2,.lst 29 f,.lst 57 g],.box [.int .i64 z.1.1,.str z.1.2.1,.str z.1.2.2.1,.lst 29 z.1.2.2.2.1,.lst 57 z.1.2.2.2.2]]⟩)
   (λz=>cD (cQ env s).2.1 z.1.1 z.1.2.1 z.1.2.2.1 z.1.2.2.2.1 z.1.2.2.2.2/\z.2=(cQ env s).2.2) ?_ ?_
  ·cbv;repeat' (first|apply bq|exact zf|(intro J;cbv)|apply bE|(refine X.call (Py he ek M hs λP U O T R g0 g1 g2 g3 g4 r y E hr=>?_);cbv))
   all_goals first
    |(exact⟨((g0,g1,g2,g3,g4),r),⟨E,hr⟩,[0,1,2,3,4,6],rfl,yc⟩
      done)
    |(exact⟨((g0,g1,g2,g3,g4),r),⟨E,hr⟩,[0,1,2,3,4,7],rfl,yc⟩
      done)
    |trace_state
  rintro⟨⟨P,U,O,T,R⟩,r⟩ ⟨y,hr⟩;simp only at y hr;by_cases e:(cQ env s).2.2=0
  ·have z:A.eq r 0=true:=by rw[Z,hr,e];rfl
   have q:=k _ (A.lit [[.int P,.str U,.str O,T,R,.int c,.str b1,.str b2,f,g]]) (if_pos e) (by refine iu (congrArg (λz=>A.lit [z]) (j5 y N)) ?_;rw[X.a];rfl);cbv;repeat' (first|apply bq|exact zf|(intro J;first|exact yB z J|cbv)|apply bE)
   exact q
  ·have z:A.eq r 0=false:=by rw[Z,hr];simpa using e
   have q:=l (if_neg e);cbv;repeat' (first|apply bq|exact zf|(intro J;first|exact yB z J|cbv)|apply bE)
   exact q _
 rw[if_neg o]at l k;have n:A.eq a 10=false:=by rw[n];simpa using o
 by_cases F:s.k=9
 ·rw[if_pos F]at l k;have w:A.eq a 9=true:=by rw[w,F];rfl
  obtain⟨v,x,m⟩:=lenOf hc;cbv;repeat' (first|apply bq|exact zf|(intro J;first|exact yB w J|cbv)|apply bE)
  refine lP X (λi=>i<=v/\ctx.find? (λp=>p.name==s.n)=(ctx.drop i).find? (λp=>p.name==s.n)) (λi=>v-i) 0 ⟨bB _,rfl⟩ [0,1,2,3,4] (λ(i:Nat)=>⟨[(21,.int .i64 i),(20,.int .i64 (A.len dc)),(19,.lst 73 dc),(3,.box 4 0)],[.box [.lst 97 de,.lst 73 dc,.row 9 3,.mp 2],.dead,.map .str 4 j,.row 9 d wr,.box [.int .i64 a,.str a1,.str a2,.lst 29 a3,.lst 57 a4,.int .i64 c,.str b1,.str b2,.lst 29 f,.lst 57 g]]⟩) ?_;rintro i ⟨hi,hf⟩;cbv;constructor<;>intro h1
  ·have h5:i<ctx.length:=lY X.a m h1;obtain⟨k0,k1,k2⟩:=kh X.a hc h5;have I:=iX X.a hc h5;have H:=jX X.a h5;have B:A.seq (A.bH (A.cell dc (bk i) 0)) a2=(ctx[i].name==s.n):=by rw[G,k0,W]
   rw[bF h5,cH]at hf;have q:(ctx[i].name==s.n)=true->_:=λe=>k _ (A.lit [[.int (A.asInt (A.cell dc (bk i) 2)),.str (A.bH (A.cell dc (bk i) 3)),.str (A.bH (A.cell dc (bk i) 4)),A.cell dc (bk i) 5,A.cell dc (bk i) 6,.int c,.str b1,.str b2,f,g]]) (by rw[hf,e];rfl) (by refine iu (congrArg (λz=>A.lit [z]) (j5 k2 N)) ?_;rw[X.a];rfl);clear h1;cbv;repeat' (first|apply bq|exact zf|(intro J;cbv)|apply bE)
   all_goals try first|exact I|exact H
   all_goals first
    |(have z:A.seq (A.bH (A.cell dc (bk i) 0)) a2=true:=yA
      exact q (B.symm.trans z))
    |(have z:A.seq (A.bH (A.cell dc (bk i) 0)) a2=false:=yA
      rw[B.symm.trans z]at hf;exact⟨i+1,⟨yO,hf⟩,yO,[0,1,2,3,4],rfl,yc⟩)
    |trace_state
  ·have h5:i=v:=gY X.a m h1;have q:=l (by rw[hf,h5,x,cd];rfl);cbv;exact q _
 ·rw[if_neg F]at l k;have w:A.eq a 9=false:=by rw[w];simpa using F
  have q:=l rfl;cbv;repeat' (first|apply bq|exact zf|(intro J;first|exact yB w J|exact yB n J|cbv)|apply bE)
  exact q _
end
end Go.VC.cG
namespace Go.VC
def nq(env:List IF)(ctx:List Pm)(s t:Ty)(n:Int):Option (List Jm):=if 1<=n/\n<=5 then lF env ctx s t n.toNat else none
structure Rt (t:Ty):Prop where
 le:Ty.le 4294967295 t
 sh:eA t=true
 rR:t.rR
 ar:t.ar.length<=1048576
end Go.VC
namespace Go.VC.cG
open Go Go.VC Go.Proofs
def Xb:ea:={tt:=tt,n:=43,n0:=3,own:=[6,21],live:=[66,67,68,69,70],qC:=[38,39],nh:=[4]}
def Z6{env:List IF}{de:D}(he:de=bA dC env)(ek:eH env){ctx:List Pm}{dc:D}(hc:dc=bA eU ctx)(mZ:ctx.length<=1048576){j k:D}{wr:Bool}{s t:Ty}(hs:Rt s)(g:Rt t){n:Int}{m:Int}{a1 a2:S}{a3 a4:D}{o:Int}{b1 b2:S}{u p:D}(ha:cD s m a1 a2 a3 a4)(hb:cD t o b1 b2 u p)
 {K:PV->List Ob->Prop} (h:∀r b,me (nq env ctx s t n) r b->K (.tup [.row 50 3,.bool b]) (JQ de dc j k wr r)):
 FT 33 (qP de dc j k wr) [.box 0 0,.int .i64 n,lH m a1 a2 a3 a4 o b1 b2 u p] K:=by
 refine el Xb Tryz.func33 λA C L X=>?_;have Y:=fz X.a;have c8:=I6 X.a;have e1:A.lt n 1=decide (n<1):=c8 n 1;have e2:A.lt 5 n=decide (5<n):=c8 5 n;unfold nq at h;cbv;by_cases f:1<=n/\n<=5
 ·have d:A.lt n 1=false:=by rw[e1];simpa using f.1
  have c:A.lt 5 n=false:=by rw[e2];simpa using f.2
  rw[if_pos f]at h;repeat' (first|apply bq|exact zf|(intro J;first|exact yB d J|exact yB c J|cbv)|apply bE)
  refine X.cut (λ(z:D×Bool)=>⟨[(10,.bool z.2),(9,.row 50 3)],[.box [.lst 97 de,.lst 73 dc,.row 9 4,.mp 2],.dead,.map .str 4 k,.row 50 z.1 true,.row 9 j wr]⟩) (λz=>me (lF env ctx s t n.toNat) z.1 z.2) ?_ ?_
  ·clear Y c8 e1 e2 d c h;have i:n=1\/n=2\/n=3\/n=4\/n=5:=yO;clear f;obtain rfl:=X.a;rcases i with rfl|rfl|rfl|rfl|rfl
   all_goals (
    cbv;repeat' (first|apply bq|exact zf|(intro J;cbv)|apply bE|(refine X.call (F66 hs.le hs.sh g.sh ha hb λr b a=>?_);cbv)|(refine X.call (F67 hs.le g.le hs.rR g.rR ha hb λr b a=>?_);cbv)|(refine X.call (F68 he ek hs.ar ha hb λr b a=>?_);cbv)|(refine X.call (F69 he ek hc mZ hs.le ha hb λr b a=>?_);cbv)|(refine X.call (F70 he ek g.le ha hb λr b a=>?_);cbv))
    all_goals first
     |trivial
     |(simp only[Int.NonNeg];decide)
     |exact⟨_⟩
     |(exact⟨(r,b),a,[0,1,2,7,8],rfl,yc⟩)
     |trace_state)
  rintro⟨r,b⟩ a;simp only at a;cases b with
  |false=>
   have z:A.not false=true:=by rw[Y];rfl
   have q:=λr'=>h r' false (by obtain⟨h1,_⟩:=a;exact me.no (by cases e:lF env ctx s t n.toNat with|none=>rfl|some l=>rw[e]at h1;cases h1));cbv;repeat' (first|apply bq|exact zf|(intro J;first|exact yB z J|cbv)|apply bE)
   all_goals exact q _
  |true=>
   have z:A.not true=false:=by rw[Y];rfl
   have q:=h r true a;cbv;repeat' (first|apply bq|exact zf|(intro J;first|exact yB z J|cbv)|apply bE)
   all_goals exact q
 ·rw[if_neg f]at h;have q:=λr=>h r false (me.no rfl);repeat' (first|apply bq|exact zf|(intro J;cbv)|apply bE)
  all_goals first
   |exact q _
   |(exfalso
     have d:A.lt n 1=false:=yA;have c:A.lt 5 n=false:=yA;rw[e1]at d;rw[e2]at c;have:=of_decide_eq_false d;have:=of_decide_eq_false c;omega)
end Go.VC.cG
namespace Go.VC
open Go
def wo(s:S):S:=Lib.itoa s.length++58::s
mutual
def Ty.tx:Ty->S| .mk k m n ar fl=>40::(Lib.itoa k++32::(wo m++(wo n++91::(Ty.ra ar++93::123::(Ty.qe fl++[125,41])))))
def Fe.tx:Fe->S| .mk s t b=>wo s++(Lib.formatBool b++Ty.tx t)
def Ty.ra:List Ty->S|[]=>[]|t::l=>Ty.tx t++Ty.ra l
def Ty.qe:List Fe->S|[]=>[]|t::l=>Fe.tx t++Ty.qe l
end
def Ff{a b:S}{x y:S}(h:wo a++x=wo b++y):a=b/\x=y:=by simp only[wo,bI,dP]at h;obtain⟨h1,_,h3⟩:=wK (by unfold isNum nz;decide) (by unfold isNum nz;decide) h;exact rW h3 yO
def SV(a:S):∃c l,wo a=c::l/\isNum c:=by
 unfold wo;cases h:Lib.itoa (a.length:Int)with
 |nil=>exact absurd h (by unfold Lib.itoa;rw[if_neg yO];exact(iM _).2.2)
 |cons c l=>exact⟨c,_,rfl,yw _ c (by rw[h];simp)⟩
def PK(t:Ty):∃l,t.tx=40::l:=by cases t;exact⟨_,rfl⟩
def Qb(f:Fe):∃c l,f.tx=c::l/\isNum c:=by
 cases f with
 |mk s t b=>obtain⟨c,l,h,hc⟩:=SV s;exact⟨c,_,by rw[Fe.tx,h];rfl,hc⟩
mutual
def Bw:∀(t u:Ty){x y:S},t.tx++x=u.tx++y->t=u/\x=y
 | .mk k m n ar fl,.mk k' m' n' X4 XU,x,y,h=>by simp only[Ty.tx,bI,dP,gN,true_and]at h;obtain⟨h0,_,g0⟩:=wK (by unfold isNum nz;decide) (by unfold isNum nz;decide) h;obtain⟨h1,g1⟩:=Ff g0;obtain⟨J,g2⟩:=Ff g1;obtain⟨h3,g3⟩:=Hb ar X4 (jK g2).2;obtain⟨h4,g4⟩:=Hd fl XU (jK g3).2;subst h0 h1 J h3 h4;exact⟨rfl,yU g4⟩
def Rl:∀(t u:Fe){x y:S},t.tx++x=u.tx++y->t=u/\x=y
 | .mk s t b,.mk s' t' b',x,y,h=>by
  simp only[Fe.tx,bI]at h;obtain⟨h1,h⟩:=Ff h;have et:Lib.formatBool true=[116,114,117,101]:=yD;have ef:Lib.formatBool false=[102,97,108,115,101]:=yD;have hb:b=b':=by cases b<;>cases b'<;>first|rfl|(rw[et,ef]at h;exact absurd (jK h).1 yD)
  subst hb;obtain⟨J,h3⟩:=Bw t t' (List.append_cancel_left h);subst h1 J;exact⟨rfl,h3⟩
def Hb:∀(l k:List Ty){x y:S},Ty.ra l++93::x=Ty.ra k++93::y->l=k/\x=y
 |[],[],x,y,h=>by simpa[Ty.ra]using h
 |[],u::k,x,y,h=>by obtain⟨z,hz⟩:=PK u;rw[Ty.ra,Ty.ra,hz]at h;exact absurd (jK h).1 yD
 |t::l,[],x,y,h=>by obtain⟨z,hz⟩:=PK t;rw[Ty.ra,Ty.ra,hz]at h;exact absurd (jK h).1 yD
 |t::l,u::k,x,y,h=>by simp only[Ty.ra,bI]at h;obtain⟨h1,J⟩:=Bw t u h;obtain⟨h3,h4⟩:=Hb l k J;subst h1 h3;exact⟨rfl,h4⟩
def Hd:∀(l k:List Fe){x y:S},Ty.qe l++125::x=Ty.qe k++125::y->l=k/\x=y
 |[],[],x,y,h=>by simpa[Ty.qe]using h
 |[],u::k,x,y,h=>by obtain⟨c,z,hz,hc⟩:=Qb u;rw[Ty.qe,Ty.qe,hz]at h;exact absurd ((jK h).1▸hc) (by unfold isNum nz;decide)
 |t::l,[],x,y,h=>by obtain⟨c,z,hz,hc⟩:=Qb t;rw[Ty.qe,Ty.qe,hz]at h;exact absurd ((jK h).1.symm▸hc) (by unfold isNum nz;decide)
 |t::l,u::k,x,y,h=>by simp only[Ty.qe,bI]at h;obtain⟨h1,J⟩:=Rl t u h;obtain⟨h3,h4⟩:=Hd l k J;subst h1 h3;exact⟨rfl,h4⟩
end
def pW(j:Jm):S:=j.1.tx++j.2.tx
def D3{a b:Jm}(h:pW a=pW b):a=b:=by obtain⟨h1,J⟩:=Bw a.1 b.1 h;obtain⟨h3,_⟩:=Bw a.2 b.2 (x:=[]) (y:=[]) (yU J);exact dR h1 h3
def Fc{s:S}(h:s.length<=1048576):(wo s).length<=1048584:=by unfold wo Lib.itoa;rw[if_neg yO];have:=Cf 6 s.length yO;simp;omega
mutual
def Fk:∀t:Ty,(∀u∈t.all,u.Nu)->t.tx.length+1100000<=3300000*t.size
 | .mk k m n ar fl,h=>by have hs:=h _ (gy _);have h1:=Ha ar λu hu=>h u (by rw[Ty.all];simp[hu]);have J:=Hc fl (λu hu=>h u (by rw[Ty.all];simp[hu])) hs.mi.f;have a1:=qZ hs.k.1 (by have:=hs.k.2;omega);have a2:=Fc hs.mi.m;have a3:=Fc hs.mi.n;simp only[Ty.k,Ty.m,Ty.n,oe,bt,bM,bX]at a1 a2 a3;rw[Ty.tx,Ty.size];simp only[bt,bM,bX];omega
def Rk:∀t:Fe,(∀u∈t.all,u.Nu)->t.s.length<=1048576->t.tx.length<=3300000*t.size
 | .mk s t b,h,hs=>by
  have h1:=Fk t λu hu=>h u (by rw[Fe.all];exact hu);have a1:=Fc (s:=s) hs;have a2:(Lib.formatBool b).length<=5:=by cases b<;>decide
  rw[Fe.tx,Fe.size];simp only[bt];omega
def Ha:∀l:List Ty,(∀u∈Ty.uo l,u.Nu)->(Ty.ra l).length<=3300000*Ty.r7 l
 |[],h=>by simp[Ty.ra]
 |t::l,h=>by have h1:=Fk t λu hu=>h u (by rw[Ty.uo];simp[hu]);have J:=Ha l λu hu=>h u (by rw[Ty.uo];simp[hu]);rw[Ty.ra,Ty.r7,bt];omega
def Hc:∀l:List Fe,(∀u∈Ty.uq l,u.Nu)->(∀f∈l,f.s.length<=1048576)->(Ty.qe l).length<=3300000*Ty.r8 l
 |[],h,_=>by simp[Ty.qe]
 |t::l,h,hs=>by have h1:=Rk t (λu hu=>h u (by rw[Ty.uq];simp[hu])) (hs t yS);have J:=Hc l (λu hu=>h u (by rw[Ty.uq];simp[hu])) λf hf=>hs f (by simp[hf]);rw[Ty.qe,Ty.r8,bt];omega
end
def Ct.tx{t:Ty}(h:Ct t)(hs:t.size<=200):t.tx.length<=660000000:=by
 have key:∀u∈t.all,u.Nu:=λu hu=>by
  have h1:u.size<=t.size:=EE t hu;have J:=iU u;have h3:u.er.length=u.ar.length+u.fl.length:=by simp[Ty.er]
  exact⟨h.mi u hu,(h.rR u hu).k,yO,yO⟩
 have:=Fk t key;omega
end Go.VC
namespace Go.VC
section
variable {i:Nat}{l:List Ty}
def Bu:∀(l k:List Ty),Ty.ra (l++k)=Ty.ra l++Ty.ra k
 |[],k=>rfl
 |t::l,k=>by rw[dP,Ty.ra,Bu l k,Ty.ra,bI]
def Bv:∀(l k:List Fe),Ty.qe (l++k)=Ty.qe l++Ty.qe k
 |[],k=>rfl
 |t::l,k=>by rw[dP,Ty.qe,Bv l k,Ty.qe,bI]
def J9(h:i<l.length):Ty.ra (l.take (i+1))=Ty.ra (l.take i)++l[i].tx:=by rw[cb h,Bu,Ty.ra,Ty.ra,cA]
def Ka{l:List Fe}(h:i<l.length):Ty.qe (l.take (i+1))=Ty.qe (l.take i)++l[i].tx:=by rw[cb h,Bv,Ty.qe,Ty.qe,cA]
def NI:(Ty.ra (l.take i)).length<=(Ty.ra l).length:=by
 have:Ty.ra l=Ty.ra (l.take i)++Ty.ra (l.drop i):=by rw[<- Bu,cX]
 rw[this];simp
def NJ{l:List Fe}:(Ty.qe (l.take i)).length<=(Ty.qe l).length:=by
 have:Ty.qe l=Ty.qe (l.take i)++Ty.qe (l.drop i):=by rw[<- Bv,cX]
 rw[this];simp
def PL(t:Ty):t.tx=[40]++Lib.itoa t.k++[32]++wo t.m++wo t.n++[91]++Ty.ra t.ar++[93,123]++Ty.qe t.fl++[125,41]:=by cases t;simp[Ty.tx,Ty.k,Ty.m,Ty.n,Ty.ar,Ty.fl,bI]
end
end Go.VC
namespace Go.VC.cG
open Go Go.VC Go.Proofs Go.Shelf
section
variable {K:PV->List Ob->Prop}
def Jt{A:pM}(h:A=Std){a b:S}(hl:a.length+b.length<=9223372036854775807):A.inr .i64 (A.add (A.dr a) (A.dr b)):=by rw[h];simp only[SD];omega
def Ul:ea:={tt:=tt,n:=10,n0:=2,live:=[130]}
def Sx{l:S}{d:D}{p:PV}(j:d= .list (dq l))(k:p= .nilp\/p= .box 0 0){s:S}(hs:l.length+(wo s).length<=4294967296)
 (h:∀r,r= .list (dq (l++wo s))->K (.tup []) [.box [.box 0 0,.row 5 2],.dead,.row 5 r true]):FT 129 [.box [p,.row 5 1],.row 5 d true] [.str s,.box 0 0] K:=by
 refine el Ul Tryz.func129 λA C L X=>?_;have c:A.dr s=bk s.length:=yX;have e:wo s=Lib.itoa (A.dr s)++[58]++s:=by rw[c,wo];simp
 have m:s.length<=4294967296:=by unfold wo at hs;simp at hs;omega
 rw[e]at h hs;have hr: -9223372036854775808<=A.dr s/\A.dr s<=9223372036854775807:=by rw[c];simp only[bz];omega
 clear e c;rcases k with rfl|rfl
 all_goals (
  cbv;refine X.call (EO hr.1 hr.2 λb f=>?_);have f:b=Lib.itoa (A.dr s):=f;rw[<- f]at h hs;obtain⟨w,g⟩:∃w,w=b++[58]++s:=⟨_,rfl⟩;have hc:A.jy (A.jy b [58]) s=w:=by rw[X.a,g];rfl
  have n:A.jy b [58]=b++[58]:=yX;simp only[bt]at hs;have c1:A.inr .i64 (A.add (A.dr b) (A.dr [58])):=Jt X.a yO;have c2:A.inr .i64 (A.add (A.dr (A.jy b [58])) (A.dr s)):=Jt X.a (by rw[n,bt];omega);rw[<- bt,<-bt,<-g]at hs;rw[<- g]at h;cbv;refine⟨c1,c2,?_⟩)
 ·refine X.call (ni (s:=A.jy (A.jy b [58]) s) j (.inl rfl) (by rw[hc];exact hs) λr2 a=>?_);rw[hc]at a;have q:=h _ a;cbv;exact q
 ·refine X.call (ni (s:=A.jy (A.jy b [58]) s) j (.inr rfl) (by rw[hc];exact hs) λr2 a=>?_);rw[hc]at a;have q:=h _ a;cbv;exact q
def W2:ea:={tt:=tt,n:=59,own:=[3],live:=[129,130,132],iT:=g65.iT}
def Z1:∀(t:Ty),Ty.le 4294967295 t->(∀u∈t.all,0<=u.k/\u.k<=10)->∀{H:Int}{c1 c2:S}{R p:D}(ht:cD t H c1 c2 R p)(hs:t.tx.length<=4294967296){K:PV->List Ob->Prop}
 (h:∀r,r=t.tx->K (.str r) []),FT 65 [] [dO H c1 c2 R p] K:=by
 refine Ty.gj λt ih=>?_;intro F N H c1 c2 R p ht hs K h;obtain⟨t0,t1,t2,V,B⟩:=ht;obtain⟨an,ah⟩:=N t (gy t);have az:t.ar.length<=4294967295:=by cases F;assumption
 have aD:t.fl.length<=4294967295:=by cases F;assumption
 rw[PL,<-t0,<-t1,<-t2]at hs;rw[PL,<-t0,<-t1,<-t2]at h;rw[<- t0]at an ah;refine en W2 Tryz.func65 λA C L X=>?_;obtain⟨n,Q,b⟩:=lenOf V;obtain⟨o,P,c⟩:=lenOf B;have kr: -9223372036854775808<=H/\H<=9223372036854775807:=yO;cbv;refine X.call (EO kr.1 kr.2 λz E=>?_);have E:z=Lib.itoa H:=E;rw[<- E]at h hs;obtain⟨w,hw⟩:∃w,w=[40]++z++[32]:=⟨_,rfl⟩;have hc:A.jy (A.jy [40] z) [32]=w:=by rw[X.a,hw];rfl
 have hs:w.length+(wo c1).length+(wo c2).length+1+(Ty.ra t.ar).length+2+(Ty.qe t.fl).length+2<=4294967296:=by rw[hw];simp only[bt,bM,bX]at hs ⊢;omega
 have am:z.length+2=w.length:=by rw[hw];simp
 have W:A.jy [40] z=[40]++z:=yX;have k1:A.inr .i64 (A.add (A.dr [40]) (A.dr z)):=Jt X.a (by simp only[bM,bX];omega);have k2:A.inr .i64 (A.add (A.dr (A.jy [40] z)) (A.dr [32])):=Jt X.a (by rw[W];simp only[bt,bM,bX];omega);rw[<- hw]at h;cbv;refine⟨k1,k2,?_⟩;refine X.call (ni (l:=[]) (s:=A.jy (A.jy [40] z) [32]) rfl (.inl rfl) (by rw[hc];simp only[bX];omega) λr2 M=>?_);rw[hc,jg]at M;clear hw am E k1 k2 W;cbv;refine X.call (Sx (s:=c1) M (.inr rfl) yO λr3 ad=>?_);cbv;refine X.call (Sx (s:=c2) ad (.inr rfl) (by rw[bt];omega) λr4 aa=>?_);cbv;refine X.call (ni (s:=[91]) aa (.inr rfl) (by simp only[bt,bM,bX];omega) λr5 I=>?_);obtain⟨v,hv⟩:∃v,v=w++wo c1++wo c2++[91]:=⟨_,rfl⟩;have hs:v.length+(Ty.ra t.ar).length+2+(Ty.qe t.fl).length+2<=4294967296:=by rw[hv];simp only[bt,bM,bX];omega
 rw[<- hv]at I h;clear M ad aa hv;cbv;refine lP X (λy=>y.1<=n/\y.2= .list (dq (v++Ty.ra (t.ar.take y.1)))) (λy=>n-y.1) (0,r5) ⟨bB _,by simpa[Ty.ra]using I⟩ [0,6,2] (λ(y:Nat×D)=>⟨[(28,.int .i64 y.1),(27,.int .i64 (A.len R)),(26,.lst 29 R),(4,.cy 129 [.box 2 0]),(3,.box 2 0),(1,.box 0 0)],[.box [.int .i64 H,.str c1,.str c2,.lst 29 R,.lst 57 p],.row 5 y.2 true,.box [.box 2 0,.row 5 1]]⟩) ?_;clear I;rintro⟨k,r⟩ ⟨hk,hr⟩;simp only at hk hr;cbv;constructor<;>intro h1
 ·have h5:k<t.ar.length:=lY X.a b h1;have q:=gT X.a V h5;have T:=iX X.a V h5;have ak:=jX X.a h5;have e:t.ar[k]∈t.er:=by simp[Ty.er]
  have d:=J9 h5;have j:=NI (l:=t.ar) (i:=k+1);rw[d,bt]at j;clear h1;cbv;refine⟨T,?_⟩;refine X.call (ih _ e (ie F _ e) (λu hu=>N u (jL e hu)) q yO λr6 m=>?_);rw[<- m]at j;cbv;refine X.call (ni hr (.inr rfl) (by rw[bt];omega) λG g=>?_);have q1:G= .list (dq (v++Ty.ra (t.ar.take (k+1)))):=by rw[d,<-bI,<-m];exact g
  clear m g;refine p1 ?_;exact⟨(k+1,G),⟨yP,q1⟩,yP,[0,4,2],rfl,yc⟩
 have h5:k=n:=gY X.a b h1;rw[h5,Q,bD]at hr;clear h1 hk h5;cbv;refine X.call (ni (s:=[93,123]) hr (.inr rfl) (by simp only[bt,bM,bX];omega) λU a=>?_);obtain⟨u,hu⟩:∃u,u=v++Ty.ra t.ar++[93,123]:=⟨_,rfl⟩;have hs:u.length+(Ty.qe t.fl).length+2<=4294967296:=by rw[hu];simp only[bt,bM,bX];omega
 rw[<- hu]at a h;clear hr hu;cbv;refine lP X (λy=>y.1<=o/\y.2= .list (dq (u++Ty.qe (t.fl.take y.1)))) (λy=>o-y.1) (0,U) ⟨bB _,by simpa[Ty.qe]using a⟩ [0,3,2] (λ(y:Nat×D)=>⟨[(40,.int .i64 y.1),(39,.int .i64 (A.len p)),(38,.lst 57 p),(4,.cy 129 [.box 2 0]),(3,.box 2 0),(1,.box 0 0)],[.box [.int .i64 H,.str c1,.str c2,.lst 29 R,.lst 57 p],.row 5 y.2 true,.box [.box 2 0,.row 5 1]]⟩) ?_;clear a;rintro⟨k,r⟩ ⟨hk,hr⟩;simp only at hk hr;cbv;constructor<;>intro h1
 ·have h5:k<t.fl.length:=lY X.a c h1;have q:=jS X.a B h5;obtain⟨k2,k3⟩:=zK X.a B h5;have T:=iX X.a B h5;have ak:=jX X.a h5;have e:t.fl[k].t∈t.er:=by simp only[Ty.er,bG,bP];exact .inr ⟨_,bu h5,rfl⟩
  have d:=Ka h5;have j:=NJ (l:=t.fl) (i:=k+1);have O:t.fl[k].tx=wo (A.bH (A.cell p (bk k) 0))++(Lib.formatBool (A.asBool (A.cell p (bk k) 6))++t.fl[k].t.tx):=by rw[k2,k3];generalize t.fl[k]=f;cases f;rfl
  rw[d,O]at j;rw[O]at d;simp only[bt]at j;clear h1 k2 k3 O;cbv;refine⟨T,?_⟩;refine X.call (Sx (s:=A.bH (A.cell p (bk k) 0)) hr (.inr rfl) (by rw[bt];omega) λr6 m=>?_);cbv;refine⟨λ(_:FF)=>by kernel_rfl,?_⟩;refine X.call (Sw λG g=>?_);have g:G=Lib.formatBool (A.asBool (A.cell p (bk k) 6)):=g;cbv;refine X.call (ih _ e (ie F _ e) (λu hu=>N u (jL e hu)) q yO λU a=>?_);rw[<- a,<-g]at j d;have W:A.jy G U=G++U:=yX;have k4:A.inr .i64 (A.add (A.dr G) (A.dr U)):=Jt X.a yO;cbv;refine⟨k4,?_⟩;refine X.call (ni (s:=A.jy G U) m (.inr rfl) (by rw[W];simp only[bt];omega) λr9 ac=>?_);have q1:r9= .list (dq (u++Ty.qe (t.fl.take (k+1)))):=by rw[d,<-bI,<-bI,<-W];exact ac
  clear m g a ac;refine p1 ?_;exact⟨(k+1,r9),⟨yP,q1⟩,yP,[0,5,2],rfl,yc⟩
 have h5:k=o:=gY X.a c h1;rw[h5,P,bD]at hr;clear h1 hk h5;cbv;refine X.call (ni (s:=[125,41]) hr (.inr rfl) (by simp only[bt,bM,bX];omega) λU a=>?_);obtain⟨x,hx⟩:∃x,x=u++Ty.qe t.fl++[125,41]:=⟨_,rfl⟩;rw[<- hx]at a h;have ag:x.length<=4294967296:=by rw[hx];simp only[bt,bM,bX];omega
 have al:x≠[]:=by rw[hx];simp
 have q:=h x rfl;clear hr hx;cbv;refine X.call (Sv al ag a rfl ?_);cbv;exact q
def Yl{s t:Ty}(hs:Ct s)(c:Ct t)(hl:s.size<=200/\t.size<=200)
 {d:Int}{a1 a2:S}{a3 a4:D}{f:Int}{b1 b2:S}{m j:D} (ha:cD s d a1 a2 a3 a4) (hb:cD t f b1 b2 m j) (h:∀r,r=pW (s,t)->K (.str r) []):
 FT 31 [] [lH d a1 a2 a3 a4 f b1 b2 m j] K:=by
 have l1:=hs.tx hl.1;have l2:=c.tx hl.2;refine en g31 Tryz.func31 λA C L X=>?_;cbv;repeat' (first|apply bq|exact zf|(intro J;cbv)|apply bE|(refine X.call (Z1 s hs.le (λu hu=>(hs.rR u hu).k) ha yO λg b=>?_);cbv))
 refine X.call (Z1 t c.le (λu hu=>(c.rR u hu).k) hb yO λr2 a=>?_);have e:A.jy g r2=pW (s,t):=by rw[X.a,b,a];rfl
 have k:A.inr .i64 (A.add (A.dr g) (A.dr r2)):=Jt X.a (by rw[b,a];omega);have h:=h _ e;clear e b a;cbv;exact⟨k,h⟩
end
end Go.VC.cG
namespace Go.VC
noncomputable def hB(env:List IF)(ctx:List Pm)(j:Jm):Bool:=LA env ctx j.1 j.2
def KI(env:List IF)(ctx:List Pm)(m:List (S×Bool)):Prop:=∀j b,fJ m (pW j)=some b->b=hB env ctx j
def KI.nil{env:List IF}{ctx:List Pm}:KI env ctx []:=λj b h=>yC h
def KI.put{env:List IF}{ctx:List Pm}{m:List (S×Bool)}(h:KI env ctx m)(j:Jm):KI env ctx (iP (pW j) (hB env ctx j) m):=λx b e=>by
 rw[lh]at e;by_cases a:x=j
 ·rw[if_pos (by rw[a])]at e;cases e;rw[a]
 ·rw[if_neg (λe'=>a (D3 e'))]at e;exact h x b e
structure JS (env:List IF) (ctx:List Pm) (C:List Ty) (de dc:D):Prop where
 he:de=bA dC env
 ek:eH env
 hc:dc=bA eU ctx
 mZ:ctx.length<=1048576
 hC:Bh env ctx C
 sh:∀t∈C,eA t=true
def JS.rt{env:List IF}{ctx:List Pm}{C:List Ty}{de dc:D}(h:JS env ctx C de dc){t:Ty}(a:t∈C):Rt t:=
 ⟨(h.hC.ct t a).le,h.sh t a,(h.hC.ct t a).rR t (gy t),by
   have h1:=h.hC.sz t a;have J:=iU t;have h3:t.er.length=t.ar.length+t.fl.length:=by simp[Ty.er]
   omega⟩
end Go.VC
namespace Go.VC.cG
open Go Go.VC Go.Proofs
def Xe:ea:={tt:=tt,n:=41,n0:=3,iT:=g29.iT}
def Z7{env:List IF}{ctx:List Pm}{C:List Ty}{de dc:D}(P:JS env ctx C de dc){y j:D}{m:List (S×Bool)}(p:j=bA cO m)(o:KI env ctx m){wr:Bool}{s t:Ty}(hs:s∈C)(n:t∈C){G:Int}{a1 a2:S}{a3 a4:D}{E:Int}{b1 b2:S}{B F:D}(ha:cD s G a1 a2 a3 a4)(hb:cD t E b1 b2 B F)
 {K:PV->List Ob->Prop} (h:∀b m' l,b=hB env ctx (s,t)->KI env ctx m'->l=bA cO m'->K (.bool b) (PX de dc y l wr)):
 FT 29 (qP de dc y j wr) [.box 0 0,lH G a1 a2 a3 a4 E b1 b2 B F] K:=by
 have w:=P.hC.ct s hs;have u:=P.hC.ct t n;refine el Xe Tryz.func29 λA C L X=>?_;have Y:=fz X.a;cbv;refine X.call (Yl w u ⟨P.hC.sz s hs,P.hC.sz t n⟩ ha hb λkey a=>?_);have a:key=pW (s,t):=a;have d:A.mJ j (.str key)=(fJ m key).isSome:=by rw[X.a,p];exact lx (f:=λb=>[.bool b])
 have e:∀v,fJ m key=some v->A.asBool (A.fc j (.str key) 0)=v:=λv H=>by rw[X.a,p];show Std.asBool (Std.fc (bA (fx λb=>[.bool b]) m) _ 0)=v;rw[ly H];rfl
 have c:∀b:Bool,A.lU j (.str key) [.bool b]=bA cO (iP key b m):=λb=>by rw[X.a,p];exact lq (f:=λb:Bool=>[.bool b])
 cbv;constructor<;>intro k
 ·have k:=d.symm.trans k;cases hl:fJ m key with
  |none=>rw[hl]at k;cases k
  |some b=>
   have g:=e b hl;have q:=h b m j (o (s,t) b (by rw[<- a];exact hl)) o p;have z:A.not true=false:=by rw[Y];rfl
   rw[<- g]at q;cbv;repeat' (first|apply bq|exact zf|(intro J;first|exact yB z J|cbv)|apply bE)
   all_goals exact q
 ·have z:A.not false=true:=by rw[Y];rfl
  have x:=yy P.hC hs n;have r:KI env ctx (iP key (hB env ctx (s,t)) m):=by rw[a];exact o.put (s,t)
  have q:=h _ _ _ rfl r (c (hB env ctx (s,t)));clear o h e d c k;cbv;repeat' (first|apply bq|exact zf|(intro J;first|exact yB z J|cbv)|apply bE|(refine X.call (Z9 P.he P.ek P.hc (by have:=P.mZ;omega) P.hC hs n x ha hb λb i=>?_);cbv))
  all_goals (
   have i:b=hB env ctx (s,t):=i;subst i;first|exact q|(cbv;exact q)|trace_state)
end Go.VC.cG
namespace Go.VC
abbrev pO(de dc d a:D)(wr:Bool):List Ob:=[.box [.box 1 0],.box [.lst 97 de,.lst 73 dc,.row 9 2,.mp 3],.row 9 d wr,.map .str 4 a]
abbrev We(de dc d a:D)(wr:Bool):List Ob:=[.box [.box 1 0],.box [.lst 97 de,.lst 73 dc,.row 9 4,.mp 3],.dead,.map .str 4 a,.row 9 d wr]
end Go.VC
namespace Go.VC.cG
open Go Go.VC Go.Proofs
section
variable {env:List IF}{ctx:List Pm}{C:List Ty}{de dc d a c:D}{wr:Bool}{K:PV->List Ob->Prop}
def W8:ea:={tt:=tt,n:=8,n0:=4,live:=[29]}
def F35(P:JS env ctx C de dc){m:List (S×Bool)}(o:a=bA cO m)(p:KI env ctx m){s t:Ty}(hs:s∈C)(r:t∈C){j:Int}{a1 a2:S}{a3 a4:D}{k:Int}{b1 b2:S}{n l:D}(ha:cD s j a1 a2 a3 a4)(hb:cD t k b1 b2 n l)
 (h:∀b m' e,b=(!hB env ctx (s,t))->KI env ctx m'->e=bA cO m'->K (.bool b) (We de dc d e wr)):
 FT 35 (pO de dc d a wr) [lH j a1 a2 a3 a4 k b1 b2 n l,.box 0 0] K:=by
 refine el W8 Tryz.func35 λA C L X=>?_;have Y:=fz X.a;cbv;refine X.call (Z7 P o p hs r ha hb λb m' e i g f=>?_);have q:=h (A.not b) m' e (by rw[Y,i]) g f;cbv;exact q
def WV:ea:={tt:=tt,n:=19,n0:=4,live:=[35]}
def Sc(P:JS env ctx C de dc){m:List (S×Bool)}(s:a=bA cO m)(t:KI env ctx m){l:List Jm}(hl:c=bA eB l)(G:l.length<=4294967290)(B:∀j∈l,j.1∈C/\j.2∈C)
 (h:∀(r:Int) m' k,r=jA (λj=> !hB env ctx j) l->KI env ctx m'->k=bA cO m'->K (.int .i64 r) (We de dc d k wr)):
 FT 71 (pO de dc d a wr) [.lst 50 c,.cy 35 [.box 0 0]] K:=by
 refine el WV Tryz.func71 λA C L X=>?_;obtain⟨f,o,e⟩:=lenOf hl;cbv;refine lP X (λy=>y.1<=f/\(∀x∈l.take y.1,(!hB env ctx x)=false)/\∃m,KI env ctx m/\y.2=bA cO m) (λy=>f-y.1) (0,a) ⟨bB _,yS,m,t,s⟩ [0,1,2,3,4] (λ(y:Nat×D)=>⟨[(8,.int .i64 y.1),(7,.int .i64 (A.len c)),(1,.cy 35 [.box 0 0]),(0,.lst 50 c)],We de dc d y.2 wr⟩) ?_;clear s t;rintro⟨i,a⟩ ⟨I,g,m,t,s⟩;simp only at I g t s;cbv;constructor<;>intro h1
 ·have h5:i<l.length:=lY X.a e h1;have H:=iX X.a hl h5;have w:=jX X.a h5;have n:=B _ (bu h5);obtain⟨E,F⟩:=OD X.a hl h5;clear h1;refine p1 ?_;refine X.call (F35 P s t n.1 n.2 E F λb m' k hb v u=>?_);have hb:b= !hB env ctx l[i]:=hb;cbv;repeat' (first|apply bq|exact zf|(intro J;cbv)|apply bE)
  all_goals try exact w
  ·have z:b=true:=yA;exact h _ m' k (fp h5 g (by rw[<- hb];exact z)).symm v u
  ·have z:b=false:=yA;refine⟨(i+1,k),⟨yP,?_,m',v,u⟩,yP,[0,1,2,3,5],rfl,?_⟩
   ·intro x p;rw[cb h5]at p;rcases bG.1 p with p|p
    ·exact g x p
    ·simp at p;subst p;rw[<- hb];exact z
   exact yc
 ·have h5:i=f:=gY X.a e h1;rw[h5,o,bD]at g;have q:=h (-1) m a (fq g).symm t s;cbv;exact q
def W9:ea:={tt:=tt,n:=9,n0:=4,live:=[71]}
def Sf(P:JS env ctx C de dc){m:List (S×Bool)}(n:a=bA cO m)(o:KI env ctx m){l:List Jm}(hl:c=bA eB l)(g:l.length<=4294967290)(i:∀j∈l,j.1∈C/\j.2∈C)
 (h:∀b m' e,b=(l.any λj=> !hB env ctx j)->KI env ctx m'->e=bA cO m'->K (.bool b) (We de dc d e wr)):
 FT 34 (pO de dc d a wr) [.lst 50 c,.cy 35 [.box 0 0]] K:=by
 refine el W9 Tryz.func34 λA C L X=>?_;cbv;refine X.call (Sc P n o hl g i λr m' e hr k f=>?_);have q:=h (A.le 0 r) m' e (by rw[X.a,lL,jH,hr]) k f;cbv;exact q
open Classical in
structure HM (m:List (S×Bool)) (l:List Jm):Prop where
 lk:∀j,fJ m (pW j)=if j∈l then some true else none
def HM.nil:HM [] []:=⟨λj=>by simp[fJ]⟩
open Classical in
def HM.put{m:List (S×Bool)}{l:List Jm}(h:HM m l)(j:Jm):HM (iP (pW j) true m) (l++[j]):=⟨λx=>by
 rw[lh];by_cases e:x=j
 ·rw[if_pos (by rw[e]),if_pos (by simp[e])]
 ·rw[if_neg (λe'=>e (D3 e')),h.lk];by_cases hl:x∈l
  ·rw[if_pos hl,if_pos (by simp[hl])]
  ·rw[if_neg hl,if_neg (by simp[hl,e])]⟩
abbrev hO(a:D):List Ob:=[.box [.mp 1],.map .str 4 a]
def W6:ea:={tt:=tt,n:=9,n0:=2,iT:=[(1,[0,1,2,3,4,5])]}
open Classical in
def F37{a:D}{m:List (S×Bool)}{hs:List Jm}(o:a=bA cO m)(q:HM m hs){s t:Ty}(cs:Ct s)(ct:Ct t)(hz:s.size<=200/\t.size<=200){p:Int}{a1 a2:S}{a3 a4:D}{r:Int}{b1 b2:S}{v u:D}(ha:cD s p a1 a2 a3 a4)(hb:cD t r b1 b2 v u)
 {K:PV->List Ob->Prop} (h:∀b,b=decide ((s,t)∉hs)->K (.bool b) (hO a)):
 FT 37 (hO a) [lH p a1 a2 a3 a4 r b1 b2 v u,.box 0 0] K:=by
 refine el W6 Tryz.func37 λA C L X=>?_;have Y:=fz X.a;have k:∀key,A.mJ a (.str key)=(fJ m key).isSome:=λkey=>by rw[X.a,o];exact lx (f:=λb=>[.bool b])
 have n:∀key,key=pW (s,t)->A.asBool (A.fc a (.str key) 0)=decide ((s,t)∈hs):=λkey e=>by
  have g:=q.lk (s,t);rw[X.a,o,e];show Std.asBool (Std.fc (bA (fx λb:Bool=>[D.bool b]) m) _ 0)=_;by_cases j:(s,t)∈hs
  ·rw[if_pos j]at g;rw[ly g,decide_eq_true j];rfl
  ·rw[if_neg j]at g;rw[uw g,decide_eq_false j];rfl
 have g:=q.lk (s,t);cbv;repeat' (first|apply bq|exact zf|(intro J;cbv)|apply bE|(refine X.call (Yl cs ct hz ha hb λkey i=>?_);cbv))
 all_goals (
  have i:key=pW (s,t):=i;have n:=n key i;rw[<- i]at g
  first
   |exact h (A.not (A.asBool (A.fc a (.str key) 0))) (by rw[Y,n];simp)
   |(have l:A.mJ a (.str key)=false:=yA
     have l:=(k key).symm.trans l;by_cases j:(s,t)∈hs
     ·rw[if_pos j]at g;rw[g]at l;cases l
     ·exact h (A.not false) (by rw[Y];simp[j]))
   |trace_state)
def WW:ea:={tt:=tt,n:=19,n0:=2,live:=[37]}
open Classical in
def Sb{a:D}{m:List (S×Bool)}{hs:List Jm}(t:a=bA cO m)(v:HM m hs){l:List Jm}{c:D}(hl:c=bA eB l)(w:l.length<=4294967290)(p:∀j∈l,Ct j.1/\Ct j.2/\j.1.size<=200/\j.2.size<=200)
 {K:PV->List Ob->Prop} (h:∀r:Int,r=jA (λj=>decide (j∉hs)) l->K (.int .i64 r) (hO a)):
 FT 71 (hO a) [.lst 50 c,.cy 37 [.box 0 0]] K:=by
 refine el WW Tryz.func71 λA C L X=>?_;obtain⟨f,k,e⟩:=lenOf hl;cbv;refine lP X (λy=>y<=f/\(∀x∈l.take y,decide (x∉hs)=false)) (λy=>f-y) 0 ⟨bB _,yS⟩ [0,1] (λ(y:Nat)=>⟨[(8,.int .i64 y),(7,.int .i64 (A.len c)),(1,.cy 37 [.box 0 0]),(0,.lst 50 c)],hO a⟩) ?_;rintro i ⟨F,g⟩;cbv;constructor<;>intro h1
 ·have h5:i<l.length:=lY X.a e h1;have E:=iX X.a hl h5;have o:=jX X.a h5;obtain⟨c1,c2,B⟩:=p _ (bu h5);obtain⟨s,u⟩:=OD X.a hl h5;clear h1;refine p1 ?_;refine X.call (F37 t v c1 c2 B s u λb hb=>?_);have hb:b=decide (l[i]∉hs):=hb;cbv;repeat' (first|apply bq|exact zf|(intro J;cbv)|apply bE)
  all_goals try exact o
  ·have z:b=true:=yA;exact h _ (fp h5 g (by rw[<- hb];exact z)).symm
  ·have z:b=false:=yA;refine⟨i+1,⟨yO,?_⟩,yO,[0,1],rfl,?_⟩
   ·intro x n;rw[cb h5]at n;rcases bG.1 n with n|n
    ·exact g x n
    ·simp only[df]at n;subst n;rw[<- hb];exact z
   exact yc
 ·have h5:i=f:=gY X.a e h1;rw[h5,k,bD]at g;have q:=h (-1) (fq g).symm;cbv;exact q
def Xa:ea:={tt:=tt,n:=9,n0:=2,live:=[71]}
open Classical in
def Se{a:D}{m:List (S×Bool)}{hs:List Jm}(g:a=bA cO m)(i:HM m hs){l:List Jm}{c:D}(hl:c=bA eB l)(f:l.length<=4294967290)(e:∀j∈l,Ct j.1/\Ct j.2/\j.1.size<=200/\j.2.size<=200)
 {K:PV->List Ob->Prop} (h:∀b,b=(l.any λj=>decide (j∉hs))->K (.bool b) (hO a)):
 FT 34 (hO a) [.lst 50 c,.cy 37 [.box 0 0]] K:=by
 refine el Xa Tryz.func34 λA C L X=>?_;cbv;refine X.call (Sb g i hl f e λr hr=>?_);have q:=h (A.le 0 r) (by rw[X.a,lL,jH,hr]);cbv;exact q
end
end Go.VC.cG
namespace Go.VC
open Classical
abbrev If:=Int×Jm
def jJ(x:If):List D:=.int x.1::eB x.2
noncomputable def sE(p:Nat->Option (List Jm))(hb:Jm->Bool):List Nat->Option (Nat×List Jm)
 |[]=>none
 |r::d=>match p r with
  |none=>sE p hb d
  |some l=>if l.any (λj=> !hb j)then sE p hb d else some (r,l)
abbrev O8:=List Jm×List If
noncomputable def lB(p:Jm->Nat->Option (List Jm))(hb:Jm->Bool):Nat->Jm->O8->O8
 |0,_,st=>st
 |n+1,j,(sn,out)=>if j∈sn then(sn,out)else match sE (p j) hb [1,2,3,4,5]with
  |none=>(sn++[j],out)
  |some (r,l)=>l.foldl (λst x=>lB p hb n x st) (sn++[j],out++[((r:Int),j)])
structure VI (C:List Ty) (st:O8):Prop where
 mem:∀j∈st.1,j.1∈C/\j.2∈C
 nd:st.1.Nodup
 len:st.2.length<=st.1.length
def VI.push{C:List Ty}{sn:List Jm}{out:List If}(h:VI C (sn,out)){j:Jm}(d:j.1∈C/\j.2∈C)(f:j∉sn):VI C (sn++[j],out):=⟨λx c=>by rcases bG.1 c with c|c;exact h.mem x c;simp at c;subst c;exact d,by rw[cV];exact⟨h.nd,yS,λa ha b hb=>by simp at hb;subst hb;exactλe=>f (e▸ha)⟩,by have:=h.len;simp at this ⊢;omega⟩
def VI.step{C:List Ty}{sn:List Jm}{out:List If}{j:Jm}(h:VI C (sn,out))(a:j.1∈C/\j.2∈C)(b:j∉sn)(x:If):VI C (sn++[j],out++[x]):=⟨(h.push a b).mem,(h.push a b).nd,by have:=h.len;simp at this ⊢;omega⟩
def VI.Tb{C:List Ty}{st:O8}(h:VI C st)(hC:C.length<=120):st.1.length<=14400/\st.2.length<=14400:=by have h1:=uU h.nd (k:=xO C) λx a=>rq.2 (h.mem x a);rw[rr]at h1;have J:C.length*C.length<=120*120:=oS hC hC;have h3:=h.len;omega
def zX{C:List Ty}{p:Jm->Nat->Option (List Jm)}{hb:Jm->Bool}(mZ:∀j,j.1∈C->j.2∈C->∀r l,p j r=some l->∀x∈l,x.1∈C/\x.2∈C):∀n j st,j.1∈C/\j.2∈C->VI C st->VI C (lB p hb n j st)/\∃a b,(lB p hb n j st)=(st.1++a,st.2++b):=by
 intro n;induction n with
 |zero=>intro j st f h;exact⟨h,[],[],by simp[lB]⟩
 |succ n o=>
  intro j ⟨sn,out⟩ f h;rw[lB];split
  ·exact⟨h,[],[],yS⟩
  ·rename_i m;split
   ·exact⟨h.push f m,[j],[],yS⟩
   ·rename_i r l c
    have hl:∀x∈l,x.1∈C/\x.2∈C:=by
     have:∀d:List Nat,sE (p j) hb d=some (r,l)->p j r=some l:=by
      intro d;induction d with
      |nil=>intro e;cases e
      |cons a d g=>
       intro e;rw[sE]at e;split at e
       ·exact g e
       ·split at e
        ·exact g e
        ·cases e;assumption
     exact mZ j f.1 f.2 r l (this _ c)
    have key:∀(l:List Jm)(st:O8),(∀x∈l,x.1∈C/\x.2∈C)->VI C st->VI C (l.foldl (λst x=>lB p hb n x st) st)/\∃a b,l.foldl (λst x=>lB p hb n x st) st=(st.1++a,st.2++b):=by
     intro l;induction l with
     |nil=>intro st _ h;exact⟨h,[],[],yS⟩
     |cons x l i=>intro st k h;obtain⟨h1,a,b,e⟩:=o x st (k x yS) h;obtain⟨J,s,b',e'⟩:=i _ (λy q=>k y (by simp[q])) h1;refine⟨J,a++s,b++b',?_⟩;rw[fB,e',e];simp
    obtain⟨h1,a,b,e⟩:=key l _ hl (h.step f m _);exact⟨h1,[j]++a,[((r:Int),j)]++b,by rw[e];simp⟩
end Go.VC
namespace Go.VC
abbrev vO(de dc c a e d:D)(wr b:Bool):List Ob:=[.box [.mp 4],.box [.box 5 0],.box [.row 60 6],.box [.cy 30 [.box 0 0,.box 1 0,.box 2 0,.box 3 0]],.map .str 4 a,.box [.lst 97 de,.lst 73 dc,.row 9 7,.mp 8],.row 60 e b,.row 9 c wr,.map .str 4 d]
abbrev Wa(de dc b a d c:D):List Ob:=[.box [.mp 4],.box [.box 5 0],.box [.row 60 9],.box [.cy 30 [.box 0 0,.box 1 0,.box 2 0,.box 3 0]],.map .str 4 a,.box [.lst 97 de,.lst 73 dc,.row 9 10,.mp 8],.dead,.dead,.map .str 4 c,.row 60 d true,.row 9 b true]
def zF(env:List IF)(ctx:List Pm):Jm->Nat->Option (List Jm):=λj r=>lF env ctx j.1 j.2 r
end Go.VC
namespace Go.VC.cG
open Go Go.VC Go.Proofs
section
variable {K:PV->List Ob->Prop}
def F32{d:D}(a:d=kq [1,2,3,4,5])(h:K (.lst 3 d) []):FT 32 [] [] K:=by
 refine en (cf 2) Tryz.func32 λA C L X=>?_;have e:A.lit [[.int 1],[.int 2],[.int 3],[.int 4],[.int 5]]=d:=by rw[X.a,a];rfl
 have q:=h;rw[<- e]at q;cbv;exact q
def Po{s t:Ty}(hs:Ct s)(e:Ct t)(hl:s.size<=200/\t.size<=200)
 {a:Int}{a1 a2:S}{a3 a4:D}{b:Int}{b1 b2:S}{d c:D} (ha:cD s a a1 a2 a3 a4) (hb:cD t b b1 b2 d c) {key:S} (hk:key=pW (s,t)) (h:K (.str key) []):
 FT 31 [] [lH a a1 a2 a3 a4 b b1 b2 d c] K:=Yl hs e hl ha hb λr hr=>by rw[hr,<-hk];exact h
def RM(env:List IF)(ctx:List Pm)(C:List Ty)(de dc j:D)(n:Nat):Prop:=
 ∀{s t:Ty}{sn:List Jm}{out:List If}{ms m:List (S×Bool)}{e p o:D}{h:Int}{a1 a2:S}{a3 a4:D}{i:Int}{b1 b2:S}{l k:D}{K:PV->List Ob->Prop},s∈C->t∈C->kM C sn<n->VI C (sn,out)->
  e=bA cO ms->HM ms sn->p=bA jJ out->o=bA cO m->KI env ctx m->cD s h a1 a2 a3 a4->cD t i b1 b2 l k->
  (∀d b f m' a c g,(d,b)=lB (zF env ctx) (hB env ctx) n (s,t) (sn,out)->a=bA cO f->HM f d->c=bA jJ b->g=bA cO m'->KI env ctx m'->K (.tup []) (Wa de dc j a c g))->
  FT 30 (vO de dc j e p o true true) [lH h a1 a2 a3 a4 i b1 b2 l k,.box 0 0,.box 1 0,.box 2 0,.box 3 0] K
def Xc:ea:={tt:=tt,n:=59,n0:=9,iT:=[(1,[0,1,2,3]),(2,[0,1,2,3])],live:=[30,33,34,35]}
open Classical in
def F30{env:List IF}{ctx:List Pm}{C:List Ty}{de dc:D}(P:JS env ctx C de dc){dv:D}{n:Nat}(ih:RM env ctx C de dc dv n):RM env ctx C de dc dv (n+1):=by
 intro s t sn out ms m O dt dm a0 a1 a2 a3 a4 b0 b1 b2 b3 b4 K hs ht bh hI ad hM c hm hK ha hb h;have aI:=P.hC.ct s hs;have aN:=P.hC.ct t ht;have aj:∀j:Jm,j.1∈C->j.2∈C->∀r l,zF env ctx j r=some l->∀x∈l,x.1∈C/\x.2∈C:=λj h1 J r l e x hx=>P.hC.closed j.1 h1 j.2 J r l e x hx;have a9:=P.hC.len;refine el Xc Tryz.func30 λA C2 L X=>?_;have Y:=fz X.a;have al:=I6 X.a;obtain⟨key,Q⟩:∃k,k=pW (s,t):=⟨_,rfl⟩;have H:=hM.lk (s,t);rw[<- Q]at H
 have hv:A.asBool (A.fc O (.str key) 0)=decide ((s,t)∈sn):=by
  rw[X.a,ad];show Std.asBool (Std.fc (bA (fx λb:Bool=>[D.bool b]) ms) _ 0)=_;by_cases I:(s,t)∈sn
  ·rw[if_pos I]at H;rw[ly H,decide_eq_true I];rfl
  ·rw[if_neg I]at H;rw[uw H,decide_eq_false I];rfl
 by_cases I:(s,t)∈sn
 ·have q:=h sn out ms m O dt dm (by rw[lB,if_pos I]) ad hM c hm hK;rw[decide_eq_true I]at hv;cbv;repeat' (first|apply bq|exact zf|(intro J;first|exact yB hv J|cbv)|apply bE|(refine X.call (Po aI aN ⟨P.hC.sz s hs,P.hC.sz t ht⟩ ha hb Q ?_);cbv))
  all_goals exact q
 have M:A.lU O (.str key) [.bool true]=bA cO (iP (pW (s,t)) true ms):=by rw[Q,X.a,ad];exact lq (f:=λb:Bool=>[.bool b])
 have ah:VI C (sn++[(s,t)],out):=hI.push ⟨hs,ht⟩ I;have v:=hM.put (s,t)
 have o:∀ag E V m' B ae p,(ag,E)=(match sE (zF env ctx (s,t)) (hB env ctx) [1,2,3,4,5]with
  |none=>(sn++[(s,t)],out)
  |some (r,l)=>l.foldl (λst x=>lB (zF env ctx) (hB env ctx) n x st) (sn++[(s,t)],out++[((r:Int),(s,t))]))->B=bA cO V->HM V ag->ae=bA jJ E->p=bA cO m'->KI env ctx m'->K (.tup []) (Wa de dc dv B ae p):=λag E V m' B ae p e=>h ag E V m' B ae p (by rw[lB,if_neg I];exact e)
 clear h;obtain⟨S0,ar⟩:∃x,x=sE (zF env ctx (s,t)) (hB env ctx) [1,2,3,4,5]:=⟨_,rfl⟩;rw[<- ar]at o;rw[decide_eq_false I]at hv;obtain⟨d,hd⟩:∃d,d=kq [1,2,3,4,5]:=⟨_,rfl⟩;have ao:A.len d=5:=by rw[X.a,hd];rfl
 have u:=DR (C:=C) (g:=sn) (j:=(s,t)) hs ht I;clear H hM ad;cbv;repeat' (first|apply bq|exact zf|(intro J;first|exact yB hv J|cbv)|apply bE|(refine X.call (Po aI aN ⟨P.hC.sz s hs,P.hC.sz t ht⟩ ha hb yA ?_);cbv)|(refine X.call (F32 hd ?_);cbv))
 refine X.j0 (λ(y:Nat×D)=>⟨[(21,.int .i64 y.1),(20,.int .i64 (A.len d)),(19,.lst 3 d),(5,.box 11 0),(1,.box 0 0),(2,.box 1 0),(3,.box 2 0),(4,.box 3 0)],Wa de dc dv (A.lU O (.str key) [.bool true]) dt y.2++[.box [.int .i64 a0,.str a1,.str a2,.lst 29 a3,.lst 57 a4,.int .i64 b0,.str b1,.str b2,.lst 29 b3,.lst 57 b4]]⟩)
  (λy=>y.1<=5/\S0=sE (zF env ctx (s,t)) (hB env ctx) (mf (y.1+1))/\∃m,y.2=bA cO m/\KI env ctx m) (λy=>5-y.1) (0,dm) ⟨by simp only;omega,ar,m,hm,hK⟩ ?_ ?_
 ·exact⟨[0,1,2,3,4,5,6,7,8,9,10,11],rfl,yc⟩
 clear hm hK m dm;rintro⟨k,dm⟩ ⟨hk,a,m,hm,hK⟩;simp only at hk a hm hK;cbv;constructor<;>intro h1
 ·have br:k<=4:=by have h1:A.lt (bk k) (A.len d)=true:=h1;rw[ao,al]at h1;have:=of_decide_eq_true h1;simp only[bz]at this;omega
  have ac:A.idx (bk k) (A.len d):=by rw[ao,X.a,kC];simp only[bz];omega
  have af:A.inr .i64 (A.add (bk k) 1):=by rw[X.a];exact fm (n:=6) yO yO
  have T:A.asInt (A.cell d (bk k) 0)=bk (k+1):=by rw[X.a,hd];have:k=0\/k=1\/k=2\/k=3\/k=4:=yO;rcases this with rfl|rfl|rfl|rfl|rfl<;>rfl
  have aO:nq env ctx s t (A.asInt (A.cell d (bk k) 0))=zF env ctx (s,t) (k+1):=by rw[T];unfold nq;rw[if_pos yL];rfl
  rw[tF ⟨yO,yO⟩,sE]at a;clear h1;cbv;refine⟨ac,?_⟩;refine X.call (Z6 P.he P.ek P.hc P.mZ (P.rt hs) (P.rt ht) ha hb λr b hA=>?_);have hA:me (nq env ctx s t (A.asInt (A.cell d (bk k) 0))) r b:=hA;rw[aO]at hA;obtain⟨ab,aE⟩:=hA;have aT:A.not false=true:=by rw[Y];rfl
  have ba:A.not true=false:=by rw[Y];rfl
  cases hp:zF env ctx (s,t) (k+1)with
  |none=>
   rw[hp]at ab a;obtain rfl:b=false:=ab;cbv;repeat' (first|apply bq|exact zf|(intro J;first|exact yB aT J|cbv)|apply bE)
   all_goals try exact af
   exact⟨(k+1,dm),⟨yP,a,m,hm,hK⟩,yP,[0,1,2,3,4,5,6,7,8,9,13,11],rfl,yc⟩
  |some l=>
   rw[hp]at ab a;obtain rfl:b=true:=ab;have hr:=aE l hp;have aH:=aj (s,t) hs ht (k+1) l hp
   have bp:l.length<=100000:=by
    have h1:l.length<=s.fl.length+t.fl.length+2*s.ar.length+1:=xP hp;have J:=iU s;have h3:s.er.length=s.ar.length+s.fl.length:=by simp[Ty.er]
    have h4:=iU t;have h5:t.er.length=t.ar.length+t.fl.length:=by simp[Ty.er]
    have:=P.hC.sz s hs;have:=P.hC.sz t ht;omega
   simp only at a;clear aE;cbv;repeat' (first|apply bq|exact zf|(intro J;first|exact yB ba J|cbv)|apply bE|(refine X.call (Sf P hm hK hr yO aH λbc m' p aC ax aq=>?_);cbv))
   all_goals try exact af
   ·have z:bc=true:=yA;rw[<- aC,z,if_pos rfl]at a;exact⟨(k+1,p),⟨yP,a,m',aq,ax⟩,yP,[0,1,2,3,4,5,6,7,8,9,14,11],rfl,yc⟩
   ·rw[X.a,c];simp only[SD];have:=(ah.Tb a9).2;simp only at this;omega
   have z:bc=false:=yA;rw[<- aC,z,if_neg yD]at a;have am:A.app dt (A.lit [[.int (A.asInt (A.cell d (bk k) 0)),.int a0,.str a1,.str a2,a3,a4,.int b0,.str b1,.str b2,b3,b4]])=bA jJ (out++[(((k+1:Nat):Int),(s,t))]):=by rw[T];refine iu (congrArg (λz=>A.app dt (A.lit [.int (bk (k+1))::z])) (j5 ha hb)) ?_;rw[X.a,c];exact cB (k:=[(((k+1:Nat):Int),(s,t))])
   have W:VI C (sn++[(s,t)],out++[(((k+1:Nat):Int),(s,t))]):=⟨ah.mem,ah.nd,by have:=hI.len;simp only[bt,bM,bX]at this ⊢;omega⟩;rw[a]at o;simp only at o;have G:kM C (sn++[(s,t)])<n:=yO;clear ah a ar hm hK T aO hp ac af;obtain⟨F,U⟩:∃F,F=l.foldl (λst x=>lB (zF env ctx) (hB env ctx) n x st) (sn++[(s,t)],out++[(((k+1:Nat):Int),(s,t))]):=⟨_,rfl⟩;rw[<- U]at o;obtain⟨av,aG,w⟩:=lenOf hr;refine lP X (λy=>y.1<=av/\F=(l.drop y.1).foldl (λst x=>lB (zF env ctx) (hB env ctx) n x st) y.2.1/\VI C y.2.1/\kM C y.2.1.1<n/\(∃ms,y.2.2.1=bA cO ms/\HM ms y.2.1.1)/\y.2.2.2.1=bA jJ y.2.1.2/\∃m,y.2.2.2.2=bA cO m/\KI env ctx m) (λy=>av-y.1) (0,(sn++[(s,t)],out++[(((k+1:Nat):Int),(s,t))]),A.lU O (.str key) [.bool true],_,p) ⟨bB _,U,W,G,⟨_,M,v⟩,am,m',aq,ax⟩ [0,1,2,3,4,5,6,7,8,9,14,12] (λ(y:Nat×O8×D×D×D)=>⟨[(50,.int .i64 y.1),(49,.int .i64 (A.len r)),(48,.row 50 11),(4,.box 3 0)],Wa de dc dv y.2.2.1 y.2.2.2.1 y.2.2.2.2++[.row 50 r false]⟩) ?_;clear U W G M v am aq ax m' p c u;rintro⟨i,⟨ay,R⟩,aK,aS,aU⟩ ⟨hi,U,aw,u,⟨aW,S,v⟩,c,m2,au,az⟩;simp only at hi U aw u S v c au az;cbv;constructor<;>intro h1
   ·have h5:i<l.length:=lY X.a w h1;have ac:=iX X.a hr h5;have af:=jX X.a h5;have N:=aH _ (bu h5);obtain⟨k1,k2⟩:=OD X.a hr h5;have aM:=zX (hb:=hB env ctx) aj n l[i] (ay,R) N aw;rw[bF h5,fB]at U;clear h1;cbv;refine⟨ac,?_⟩;refine X.call (ih N.1 N.2 u aw S v c au az k1 k2 λap ak a7 m3 aF aY aZ he aD aX an a8 a0=>?_);have he:(ap,ak)=lB (zF env ctx) (hB env ctx) n l[i] (ay,R):=he;rw[<- he]at U aM;obtain⟨W,x1,x2,hx⟩:=aM;have G:kM C ap<n:=jd (DS λy hy=>by cases hx;exact dF _ hy) u;refine p1 ?_;exact⟨(i+1,(ap,ak),aF,aY,aZ),⟨yP,U,W,G,⟨a7,aD,aX⟩,an,m3,a8,a0⟩,yP,[0,1,2,3,4,5,6,7,8,13,14,11],rfl,yc⟩
   ·have h5:i=av:=gY X.a w h1;rw[h5,aG,cd,CE]at U;have q:=o ay R aW m2 aK aS aU U.symm S v c au az;cbv;exact q
 ·have a5:k=5:=by have h1:A.lt (bk k) (A.len d)=false:=h1;rw[ao,al]at h1;have:=of_decide_eq_false h1;simp only[bz]at this;omega
  rw[a5,sb,sE]at a;have q:=o (sn++[(s,t)]) out _ m _ dt dm (by rw[a]) M v c hm hK;cbv;exact q
end
end Go.VC.cG
namespace Go.VC
noncomputable def wv(env:List IF)(ctx:List Pm)(j:Jm):List If:=(lB (zF env ctx) (hB env ctx) 20000 j ([],[])).2
end Go.VC
namespace Go.VC.cG
open Go Go.VC Go.Proofs
section
variable {C:List Ty}{env:List IF}{ctx:List Pm}{de dc:D}
def SX(P:JS env ctx C de dc){a:D}:∀n,RM env ctx C de dc a n
 |0=>λ_ _ h=>absurd h (Nat.not_lt_zero _)
 |n+1=>F30 P (SX P n)
def Ja(h:C.length<=120):kM C []<20000:=by have h1:kM C []<=(xO C).length:=lO _ _;rw[rr]at h1;have J:C.length*C.length<=120*120:=oS h h;omega
def g7k:ea:={tt:=tt,n:=37,own:=[12],live:=[28,29,30]}
def F7(E:JH env de)(hc:dc=bA eU ctx)(mZ:ctx.length<=1048576)(m:∀p∈ctx,p.bound.fit/\p.name.length<=1048576){s t:Ty}(fs:s.fit)(x:t.fit)
 (H:sT env ctx s t=true->JS env ctx C de dc/\s∈C/\t∈C)
 {w:Int}{a1 a2:S}{a3 a4:D}{r:Int}{b1 b2:S}{o v:D} (ha:cD s w a1 a2 a3 a4) (hb:cD t r b1 b2 o v) {K:PV->List Ob->Prop}
 (h0:(sT env ctx s t&&hB env ctx (s,t))=false->K (.tup [.lst 60 (.list []),.bool false]) [])
 (h1:sT env ctx s t=true->hB env ctx (s,t)=true->∀d,d=bA jJ (wv env ctx (s,t))->K (.tup [.lst 60 d,.bool true]) []):
 FT 7 [] [.lst 97 de,.lst 73 dc,dO w a1 a2 a3 a4,dO r b1 b2 o v] K:=by
 refine FC.enter (G:=g7k) k9 mixed ⟨Tryz.func7,by rfl,rfl⟩ rfl rfl rfl ?_;intro A M L X;have Y:=fz X.a;cbv;refine X.call (Z8 E hc mZ m fs x ha hb (λe=>?_) λe N I B h=>?_)
 ·have q:=h0 (by rw[e];rfl);clear h0 h1;cbv;exact q
 ·obtain⟨P,hs,n⟩:=H e;have F:I=bA cO []:=h;rw[e]at h0;have h1:=h1 e;cbv;repeat' (first|apply bq|exact zf|(intro J;cbv)|apply bE|(refine X.call (Z7 P F KI.nil hs n ha hb λb m' k c j g=>?_);cbv))
  ·have z:A.not b=true:=yA;rw[Y,c]at z;exact h0 (yU z)
  ·have z:A.not b=false:=yA;rw[Y,c]at z;have h1:=h1 (yU z);refine X.call (SX P 20000 hs n (Ja P.hC.len) ⟨yS,yS,cg _⟩ (ms:=[]) rfl HM.nil (out:=[]) rfl g j ha hb λl a y m' u i k he _ _ f _ _=>?_);have he:(l,a)=lB (zF env ctx) (hB env ctx) 20000 (s,t) ([],[]):=he;have q:=h1 i (by rw[f,wv,<-he]);clear h0 h1 he;cbv;exact q
end
end Go.VC.cG
namespace Go.VC
open Classical
noncomputable def BC(env:List IF)(ctx:List Pm)(hs:List Jm)(x:If):Bool:=match nq env ctx x.2.1 x.2.2 x.1 with
 |none=>false
 |some m=> !m.any λj=>decide (j∉hs)
noncomputable def Jr(env:List IF)(ctx:List Pm)(l:List If)(j:Jm):Bool:=sT env ctx j.1 j.2&&l.all (λx=>gQ env (kJ ctx) x.2.1&&gQ env (kJ ctx) x.2.2)&&l.all (BC env ctx (l.map (·.2)))&&decide (j∈l.map (·.2))
def Ct.fit{t:Ty}(h:Ct t)(hs:t.size<=200):t.fit:=⟨h.le,by omega,h.mi⟩
def S8{A:pM}{l:List If}{d:D}{i:Nat}(ha:A=Std)(a:d=bA jJ l)(h:i<l.length):A.asInt (A.cell d (bk i) 0)=l[i].1/\cD l[i].2.1 (A.asInt (A.cell d (bk i) 1)) (A.bH (A.cell d (bk i) 2)) (A.bH (A.cell d (bk i) 3)) (A.cell d (bk i) 4) (A.cell d (bk i) 5)/\cD l[i].2.2 (A.asInt (A.cell d (bk i) 6)) (A.bH (A.cell d (bk i) 7)) (A.bH (A.cell d (bk i) 8)) (A.cell d (bk i) 9) (A.cell d (bk i) 10):=by
 subst ha a;have e:jJ l[i]=[.int l[i].1,.int l[i].2.1.k,.str l[i].2.1.m,.str l[i].2.1.n,bA cq l[i].2.1.ar,bA eZ l[i].2.1.fl,.int l[i].2.2.k,.str l[i].2.2.m,.str l[i].2.2.n,bA cq l[i].2.2.ar,bA eZ l[i].2.2.fl]:=by unfold jJ eB;rw[dk,dk];rfl
 unfold cD;rw[dN h,dN h,dN h,dN h,dN h,dN h,dN h,dN h,dN h,dN h,dN h,e];exact⟨rfl,⟨rfl,rfl,rfl,rfl,rfl⟩,⟨rfl,rfl,rfl,rfl,rfl⟩⟩
end Go.VC
namespace Go.VC.cG
open Go Go.VC Go.Proofs
def g8k:ea:={tt:=tt,n:=81,iT:=[(11,[0,1,2,3]),(20,[0,1,2,3,4])],live:=[28,33,34,36,37]}
open Classical in
def F8{env:List IF}{de:D}(E:JH env de){ctx:List Pm}{dc:D}(hc:dc=bA eU ctx)(mZ:ctx.length<=1048576)(au:∀p∈ctx,p.bound.fit/\p.name.length<=1048576){s t:Ty}(fs:s.fit)(ft:t.fit)
 {C:List Ty} (hP:sT env ctx s t=true->JS env ctx C de dc/\s∈C/\t∈C) {l:List If}{n:D} (hl:n=bA jJ l) (aG:l.length<=100000) (v:sT env ctx s t=true->∀x∈l,x.2.1∈C/\x.2.2∈C)
 {a0:Int}{a1 a2:S}{a3 a4:D}{b0:Int}{b1 b2:S}{b3 b4:D} (ha:cD s a0 a1 a2 a3 a4) (hb:cD t b0 b1 b2 b3 b4) {K:PV->List Ob->Prop}
 (h:∀b,b=Jr env ctx l (s,t)->K (.bool b) []):
 FC Tryz.prog tt 8 [] [.lst 97 de,.lst 73 dc,.lst 60 n,dO a0 a1 a2 a3 a4,dO b0 b1 b2 b3 b4] K:=by
 have V:sT env ctx s t=false->K (.bool false) []:=λe=>h _ (by unfold Jr;rw[e];rfl);refine FC.enter (G:=g8k) k9 mixed ⟨Tryz.func8,by rfl,rfl⟩ rfl rfl rfl ?_;intro A C' L X;have Y:=fz X.a;cbv;refine X.call (Z8 E hc mZ au fs ft ha hb (λe=>?_) λe dv dm aq an=>?_)
 ·have q:=V e;cbv;exact q
 obtain⟨P,hs,ht⟩:=hP e;have v:=v e;have aa:(l.all (λx=>gQ env (kJ ctx) x.2.1&&gQ env (kJ ctx) x.2.2))=false->K (.bool false) []:=λe2=>h _ (by unfold Jr;rw[e,e2];rfl);have h:(l.all (λx=>gQ env (kJ ctx) x.2.1&&gQ env (kJ ctx) x.2.2))=true->∀b,b=(l.all (BC env ctx (l.map (·.2)))&&decide ((s,t)∈l.map (·.2)))->K (.bool b) []:=λe2 b hb=>h b (by unfold Jr;rw[e,e2,hb];rfl);have hm:dm=bA cO []:=an;obtain⟨d,i,a⟩:=lenOf hl;clear hP V e;cbv
 refine X.j0 (λ(y:Nat×D)=>⟨[(34,.int .i64 y.1),(33,.int .i64 (A.len n)),(32,.lst 60 n),(2,.lst 60 n),(11,.box 0 0),(12,.box 3 0),(13,.box 4 0)],qP de dc dv dm true++[.box [.int .i64 a0,.str a1,.str a2,.lst 29 a3,.lst 57 a4,.int .i64 b0,.str b1,.str b2,.lst 29 b3,.lst 57 b4],.box [.mp 5],.map .str 4 y.2]⟩)
  (λy=>y.1<=d/\(l.take y.1).all (λx=>gQ env (kJ ctx) x.2.1&&gQ env (kJ ctx) x.2.2)=true/\∃m,y.2=bA cO m/\HM m ((l.take y.1).map (·.2))) (λy=>d-y.1) (0,.list []) ⟨bB _,rfl,[],rfl,HM.nil⟩ ?_ ?_
 ·refine⟨[2,3,4,5,7,6],rfl,?_⟩
  (cbv;repeat' apply bq);all_goals try first|trivial|rfl|(rw[X.a];rfl)
 rintro⟨k,dh⟩ ⟨hk,c,mh,H,hH⟩;simp only at hk c H hH;cbv;refine⟨λh1=>?_,λh1=>?_⟩
 ·have h5:k<l.length:=by obtain rfl:=X.a;simp only[a,SD,dL]at h1;omega
  obtain⟨k0,k1,k2⟩:=S8 X.a hl h5;have O:A.idx (bk k) (A.len n):=by rw[X.a,hl];exact cY h5
  have N:A.inr .i64 (A.add (bk k) 1):=by rw[X.a];exact fm h5 (by omega)
  obtain⟨R,Q⟩:=v _ (bu h5);have c1:=P.hC.ct _ R;have c2:=P.hC.ct _ Q;have z1:=P.hC.sz _ R;have z2:=P.hC.sz _ Q;have ap:(kJ ctx).length<=4294967295:=by unfold kJ;rw[bL];omega
  obtain⟨key,g⟩:∃k',k'=pW (l[k].2.1,l[k].2.2):=⟨_,rfl⟩;have ad:A.lU dh (.str key) [.bool true]=bA cO (iP (pW l[k].2) true mh):=by rw[g,X.a,H];exact lq (f:=λb:Bool=>[.bool b])
  clear h1;cbv;refine⟨O,?_⟩;refine X.call (Z5 P.he P.ek aq ap (c1.fit z1) (c2.fit z2) k1 k2 λb B=>?_);have B:b=(gQ env (kJ ctx) l[k].2.1&&gQ env (kJ ctx) l[k].2.2):=B;cases b with
  |false=>
   have z:A.not false=true:=by rw[Y];rfl
   have q:=aa (all_false h5 B.symm);cbv;repeat' (first|apply bq|exactλ(_:FF)=>by kernel_rfl|(intro J;first|exact absurd ((z).symm.trans J) (by decide)|cbv)|apply bE)
   all_goals exact q
  |true=>
   have z:A.not true=false:=by rw[Y];rfl
   cbv;repeat' (first|apply bq|exactλ(_:FF)=>by kernel_rfl|(intro J;first|exact absurd ((z).symm.trans J) (by decide)|cbv)|apply bE|(refine X.call (Po c1 c2 ⟨z1,z2⟩ k1 k2 g ?_);cbv))
   all_goals try exact N
   refine⟨(k+1,_),⟨by simp only;omega,mW h5 c B.symm,_,ad,?_⟩,by simp only;omega,[0,8,2,3,4,5],rfl,?_⟩
   ·rw[map_take h5];exact hH.put _
   (cbv;repeat' apply bq);all_goals try first|trivial|rfl|(rw[X.a];rfl)
 have h5:k=d:=by obtain rfl:=X.a;simp only[a,SD,dL]at h1;omega
 rw[h5,i,bD]at c hH;have h:=h c;clear h1 h5 hk c aa;cbv
 refine X.j0 (λ(k:Nat)=>⟨[(53,.int .i64 k),(52,.int .i64 (A.len n)),(51,.lst 60 n),(11,.box 0 0),(12,.box 3 0),(13,.box 4 0)],qP de dc dv dm true++[.box [.int .i64 a0,.str a1,.str a2,.lst 29 a3,.lst 57 a4,.int .i64 b0,.str b1,.str b2,.lst 29 b3,.lst 57 b4],.box [.mp 5],.map .str 4 dh]⟩)
  (λk=>k<=d/\(l.take k).all (BC env ctx (l.map (·.2)))=true) (λk=>d-k) 0 ⟨bB _,rfl⟩ ?_ ?_
 ·refine⟨[0,1,2,3,4,5],rfl,?_⟩
  (cbv;repeat' apply bq);all_goals try first|trivial|rfl|(rw[X.a];rfl)
 rintro k ⟨hk,c⟩;cbv;refine⟨λh1=>?_,λh1=>?_⟩
 ·have h5:k<l.length:=by obtain rfl:=X.a;simp only[a,SD,dL]at h1;omega
  obtain⟨k0,k1,k2⟩:=S8 X.a hl h5;have O:A.idx (bk k) (A.len n):=by rw[X.a,hl];exact cY h5
  have N:A.inr .i64 (A.add (bk k) 1):=by rw[X.a];exact fm h5 (by omega)
  obtain⟨R,Q⟩:=v _ (bu h5);have U:BC env ctx (l.map (·.2)) l[k]=false->K (.bool false) []:=λe=>h _ (by rw[all_false h5 e];rfl);clear h1;cbv;refine⟨O,?_⟩;refine X.call (Z6 P.he P.ek P.hc P.mZ (P.rt R) (P.rt Q) k1 k2 λr b hA=>?_);have hA:me (nq env ctx l[k].2.1 l[k].2.2 (A.asInt (A.cell n (bk k) 0))) r b:=hA;rw[k0]at hA;obtain⟨u,ac⟩:=hA;have am:A.not false=true:=by rw[Y];rfl
  have ar:A.not true=false:=by rw[Y];rfl
  cases o:nq env ctx l[k].2.1 l[k].2.2 l[k].1 with
  |none=>
   rw[o]at u;obtain rfl:b=false:=u;have q:=U (by unfold BC;rw[o]);cbv;repeat' (first|apply bq|exactλ(_:FF)=>by kernel_rfl|(intro J;first|exact absurd ((am).symm.trans J) (by decide)|cbv)|apply bE)
   all_goals exact q
  |some m=>
   rw[o]at u;obtain rfl:b=true:=u;have hr:=ac m o;have W:BC env ctx (l.map (·.2)) l[k]= !m.any λj=>decide (j∉l.map (·.2)):=by unfold BC;rw[o]
   have ao:∃r',lF env ctx l[k].2.1 l[k].2.2 r'=some m:=by unfold nq at o;split at o;exact⟨_,o⟩;cases o
   obtain⟨r',M⟩:=ao;have w:∀j∈m,j.1∈C/\j.2∈C:=P.hC.closed _ R _ Q r' m M
   have aH:m.length<=100000:=by
    have h1:=xP M;have J:=iU l[k].2.1;have h3:l[k].2.1.er.length=l[k].2.1.ar.length+l[k].2.1.fl.length:=by simp[Ty.er]
    have h4:=iU l[k].2.2;have h5:l[k].2.2.er.length=l[k].2.2.ar.length+l[k].2.2.fl.length:=by simp[Ty.er]
    have:=P.hC.sz _ R;have:=P.hC.sz _ Q;omega
   clear ac o M;cbv;repeat' (first|apply bq|exactλ(_:FF)=>by kernel_rfl|(intro J;first|exact absurd ((ar).symm.trans J) (by decide)|cbv)|apply bE|(refine X.call (Se H hH hr (by omega) (λj I=>⟨P.hC.ct _ (w j I).1,P.hC.ct _ (w j I).2,P.hC.sz _ (w j I).1,P.hC.sz _ (w j I).2⟩) λbc T=>?_);cbv))
   all_goals try exact N
   ·have z:bc=true:=by assumption
    exact U (by rw[W,<-T,z];rfl)
   ·have z:bc=false:=by assumption
    refine⟨k+1,⟨by omega,mW h5 c (by rw[W,<-T,z];rfl)⟩,by omega,[0,8,2,3,4,5],rfl,?_⟩
    (cbv;repeat' apply bq);all_goals try first|trivial|rfl|(rw[X.a];rfl)
 have h5:k=d:=by obtain rfl:=X.a;simp only[a,SD,dL]at h1;omega
 rw[h5,i,bD]at c
 have hv:∀key,key=pW (s,t)->A.asBool (A.fc dh (.str key) 0)=decide ((s,t)∈l.map (·.2)):=λkey e=>by
  have F:=hH.lk (s,t);rw[X.a,H,e];show Std.asBool (Std.fc (bA (fx λb:Bool=>[D.bool b]) mh) _ 0)=_;by_cases I:(s,t)∈l.map (·.2)
  ·rw[if_pos I]at F;rw[ly F,decide_eq_true I];rfl
  ·rw[if_neg I]at F;rw[uw F,decide_eq_false I];rfl
 obtain⟨key,g⟩:∃k',k'=pW (s,t):=⟨_,rfl⟩;have q:=h (A.asBool (A.fc dh (.str key) 0)) (by rw[c,hv key g];rfl);clear hv h h1 h5 hk c;cbv;repeat' (first|apply bq|exactλ(_:FF)=>by kernel_rfl|(intro J;cbv)|apply bE|(refine X.call (Po (P.hC.ct s hs) (P.hC.ct t ht) ⟨P.hC.sz s hs,P.hC.sz t ht⟩ ha hb g ?_);cbv))
 all_goals first|exact q|trace_state
end Go.VC.cG
