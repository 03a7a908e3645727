/- Part 8 of the common texts. -/
import Derived.Test.YtflmompnagpjeaaGreatDoorPart7
set_option linter.all false
set_option maxRecDepth 100000
set_option maxHeartbeats 16000000
open And renaming intro→bk
open Eq renaming trans→gv
open Int renaming ofNat→bj,ofNat_eq_natCast→bD
open List renaming append_assoc→bL,append_inj→sd,append_nil→cz,cons_append→dL,drop_eq_getElem_cons→bJ,drop_length→ch,find?_cons→cI,foldl_cons→fy,foldl_nil→DG,getElem_mem→br,length_append→bp,length_cons→bI,length_filter_le→jo,length_map→bA,length_nil→bZ,mem_append→bE,mem_append_left→cy,mem_map→bH,nil_append→jd,nodup_append→dk,take_append_drop→cV,take_length→bz
open List.cons renaming inj→jP,injEq→lW
open Nat renaming le_refl→bX,lt_of_le_of_lt→gS,mul_le_mul→lG,zero_le→bw
open Or renaming inl→bB
open Prod renaming ext→fq
namespace Go.VC.cc
open Go Go.VC Go.Proofs
section
variable {env:List IF}{de dc d dm a3 a4 f g:D}{wr:Bool}{s t:Ty}{a c:Int}{a1 a2 b1 b2:S}{K:PV->List Ob->Prop}
def YV:dH:={tt:=tt,n:=31,n0:=3,pC:=[21,22,23],own:=[4,28],ox:=[3]}
def F70(he:de=bt dy env)(dJ:ey env)(dA:Ty.le 4294967295 t)(hs:cr s a a1 a2 a3 a4)(p:cr t c b1 b2 f g)
 (h:∀r b,mB (yl env s t) r b->K (.tup [.row 50 3,.bool b]) (KY de dc d dm wr r)):
 FT 70 (qP de dc d dm wr) [.box 0 0,kq a a1 a2 a3 a4 c b1 b2 f g] K:=by
 refine el YV Tryz.func70 λA C L X=>?_;have Y:=fg X.a;have Z:=oY X.a;have j:A.not (A.eq c 10)= !(t.k==10):=by rw[Y,Z,p.1]
 unfold yl at h;by_cases hk:t.k=10
 ·have j:A.not (A.eq c 10)=false:=by rw[j,hk];rfl
  cbv;repeat' (first|apply bk|exact zf|(intro J;first|exact yB j J|cbv)|apply bB)
  refine X.cut (λ(z:(Int×S×S×D×D)×Int)=>⟨[(8,.int .i64 z.2),(6,.box 5 0),(3,.box 4 0)],[.box [.lst 97 de,.lst 73 dc,.row 9 3,.mp 2],.dead,.map .str 4 dm,.row 9 d wr,.box [.int .i64 a,.str a1,.str a2,.lst 29 a3,.lst 57 a4,.int .i64 c,.str b1,.str b2,.lst 29 f,.lst 57 g],.box [.int .i64 z.1.1,.str z.1.2.1,.str z.1.2.2.1,.lst 29 z.1.2.2.2.1,.lst 57 z.1.2.2.2.2]]⟩)
   (λz=>cr (cG env t).1 z.1.1 z.1.2.1 z.1.2.2.1 z.1.2.2.2.1 z.1.2.2.2.2/\z.2=(cG env t).2.2) ?_ ?_
  ·cbv;repeat' (first|apply bk|exact zf|(intro J;cbv)|apply bB|(refine X.call (QE he dJ dA p λm o l k n g0 g1 g2 g3 g4 r i u hr=>?_);cbv))
   all_goals first
    |(exact⟨((m,o,l,k,n),r),⟨i,hr⟩,[0,1,2,3,4,6],rfl,yc⟩
      done)
    |(exact⟨((m,o,l,k,n),r),⟨i,hr⟩,[0,1,2,3,4,7],rfl,yc⟩
      done)
    |trace_state
  rintro⟨⟨m,o,l,k,n⟩,r⟩ ⟨i,hr⟩;simp only at i hr
  have q:=h (A.lit [[.int a,.str a1,.str a2,a3,a4,.int m,.str o,.str l,k,n]]) (A.eq r 0) (by
   rw[Z,hr];by_cases e:(cG env t).2.2=0
   ·rw[if_pos e,e];refine mB.yes rfl ?_;refine gv (congrArg (λz=>A.lit [z]) (jk hs i)) ?_;rw[X.a];rfl
   ·rw[if_neg e];have:((cG env t).2.2==0)=false:=yU e;rw[this];exact mB.no rfl)
  cbv;exact q
 ·have j:A.not (A.eq c 10)=true:=by rw[j];simpa using hk
  have q:=λr=>h r false (mB.no (by rw[if_neg (BU hk)]));cbv;repeat' (first|apply bk|exact zf|(intro J;first|exact yB j J|cbv)|apply bB)
  exact q _
def YW:dH:={tt:=tt,n:=58,n0:=3,pC:=[48,49,50],own:=[4,36,57],ox:=[10]}
def F69(he:de=bt dy env)(dJ:ey env){ctx:List Pm}(hc:dc=bt dB ctx)(oV:ctx.length<=1048576)(G:Ty.le 4294967295 s)(hs:cr s a a1 a2 a3 a4)(H:cr t c b1 b2 f g)
 (h:∀r b,mB (tS env ctx s t) r b->K (.tup [.row 50 3,.bool b]) (KY de dc d dm wr r)):
 FT 69 (qP de dc d dm wr) [.box 0 0,kq a a1 a2 a3 a4 c b1 b2 f g] K:=by
 obtain⟨N,s1,T,_,_⟩:=id hs;have k:jG env ctx s=none->∀r,K (.tup [.row 50 3,.bool false]) (KY de dc d dm wr r):=λe r=>h r false (mB.no (by unfold tS;rw[e];rfl));have j:∀u r,jG env ctx s=some u->r=bt dD [(u,t)]->K (.tup [.row 50 3,.bool true]) (KY de dc d dm wr r):=λu r e R=>h r true (mB.yes (by unfold tS;rw[e];rfl) R);clear h;unfold jG at k j;refine el YW Tryz.func69 λA C L X=>?_;have Y:=fg X.a;have Z:=oY X.a;have B:=OT X.a;have e9:A.eq a 9=(s.k==9):=by rw[Z,N]
 have kj:A.eq a 10=(s.k==10):=by rw[Z,N]
 by_cases m:s.k=10
 ·rw[if_pos m]at k j;have e9:A.eq a 9=false:=by rw[e9,m];rfl
  have kj:A.eq a 10=true:=by rw[kj,m];rfl
  cbv;repeat' (first|apply bk|exact zf|(intro J;first|exact yB e9 J|exact yB kj J|cbv)|apply bB)
  refine X.cut (λ(z:(Int×S×S×D×D)×Int)=>⟨[(10,.int .i64 z.2),(9,.box 5 0),(3,.box 4 0)],[.box [.lst 97 de,.lst 73 dc,.row 9 3,.mp 2],.dead,.map .str 4 dm,.row 9 d wr,.box [.int .i64 a,.str a1,.str a2,.lst 29 a3,.lst 57 a4,.int .i64 c,.str b1,.str b2,.lst 29 f,.lst 57 g],.box [.int .i64 z.1.1,.str z.1.2.1,.str z.1.2.2.1,.lst 29 z.1.2.2.2.1,.lst 57 z.1.2.2.2.2]]⟩)
   (λz=>cr (cG env s).2.1 z.1.1 z.1.2.1 z.1.2.2.1 z.1.2.2.2.1 z.1.2.2.2.2/\z.2=(cG env s).2.2) ?_ ?_
  ·cbv;repeat' (first|apply bk|exact zf|(intro J;cbv)|apply bB|(refine X.call (QE he dJ G hs λM Q I P O g0 g1 g2 g3 g4 r v x hr=>?_);cbv))
   all_goals first
    |(exact⟨((g0,g1,g2,g3,g4),r),⟨x,hr⟩,[0,1,2,3,4,6],rfl,yc⟩
      done)
    |(exact⟨((g0,g1,g2,g3,g4),r),⟨x,hr⟩,[0,1,2,3,4,7],rfl,yc⟩
      done)
    |trace_state
  rintro⟨⟨M,Q,I,P,O⟩,r⟩ ⟨v,hr⟩;simp only at v hr;by_cases e:(cG env s).2.2=0
  ·have z:A.eq r 0=true:=by rw[Z,hr,e];rfl
   have q:=j _ (A.lit [[.int M,.str Q,.str I,P,O,.int c,.str b1,.str b2,f,g]]) (if_pos e) (by refine gv (congrArg (λz=>A.lit [z]) (jk v H)) ?_;rw[X.a];rfl);cbv;repeat' (first|apply bk|exact zf|(intro J;first|exact yB z J|cbv)|apply bB)
   exact q
  ·have z:A.eq r 0=false:=by rw[Z,hr];simpa using e
   have q:=k (if_neg e);cbv;repeat' (first|apply bk|exact zf|(intro J;first|exact yB z J|cbv)|apply bB)
   exact q _
 rw[if_neg m]at k j;have kj:A.eq a 10=false:=by rw[kj];simpa using m
 by_cases y:s.k=9
 ·rw[if_pos y]at k j;have e9:A.eq a 9=true:=by rw[e9,y];rfl
  obtain⟨n,o,l⟩:=lenOf hc;cbv;repeat' (first|apply bk|exact zf|(intro J;first|exact yB e9 J|cbv)|apply bB)
  refine lP X (λi=>i<=n/\ctx.find? (λp=>p.name==s.n)=(ctx.drop i).find? (λp=>p.name==s.n)) (λi=>n-i) 0 ⟨bw _,rfl⟩ [0,1,2,3,4] (λ(i:Nat)=>⟨[(21,.int .i64 i),(20,.int .i64 (A.len dc)),(19,.lst 73 dc),(3,.box 4 0)],[.box [.lst 97 de,.lst 73 dc,.row 9 3,.mp 2],.dead,.map .str 4 dm,.row 9 d wr,.box [.int .i64 a,.str a1,.str a2,.lst 29 a3,.lst 57 a4,.int .i64 c,.str b1,.str b2,.lst 29 f,.lst 57 g]]⟩) ?_;rintro i ⟨hi,hf⟩;cbv;constructor<;>intro h1
  ·have h5:i<ctx.length:=lY X.a l h1;obtain⟨U,W,V⟩:=im X.a hc h5;have F:=iX X.a hc h5;have E:=jX X.a h5;have w:A.seq (A.bG (A.cell dc (bj i) 0)) a2=(ctx[i].name==s.n):=by rw[B,U,T]
   rw[bJ h5,cI]at hf;have q:(ctx[i].name==s.n)=true->_:=λe=>j _ (A.lit [[.int (A.asInt (A.cell dc (bj i) 2)),.str (A.bG (A.cell dc (bj i) 3)),.str (A.bG (A.cell dc (bj i) 4)),A.cell dc (bj i) 5,A.cell dc (bj i) 6,.int c,.str b1,.str b2,f,g]]) (by rw[hf,e];rfl) (by refine gv (congrArg (λz=>A.lit [z]) (jk V H)) ?_;rw[X.a];rfl);clear h1;cbv;repeat' (first|apply bk|exact zf|(intro J;cbv)|apply bB)
   all_goals try first|exact F|exact E
   all_goals first
    |(have z:A.seq (A.bG (A.cell dc (bj i) 0)) a2=true:=yA
      exact q (w.symm.trans z))
    |(have z:A.seq (A.bG (A.cell dc (bj i) 0)) a2=false:=yA
      rw[w.symm.trans z]at hf;exact⟨i+1,⟨yO,hf⟩,yO,[0,1,2,3,4],rfl,yc⟩)
    |trace_state
  ·have h5:i=n:=gY X.a l h1;have q:=k (by rw[hf,h5,o,ch];rfl);cbv;exact q _
 ·rw[if_neg y]at k j;have e9:A.eq a 9=false:=by rw[e9];simpa using y
  have q:=k rfl;cbv;repeat' (first|apply bk|exact zf|(intro J;first|exact yB e9 J|exact yB kj J|cbv)|apply bB)
  exact q _
end
end Go.VC.cc
namespace Go.VC
def nT(env:List IF)(ctx:List Pm)(s t:Ty)(n:Int):Option (List Jm):=if 1<=n/\n<=5 then lK env ctx s t n.toNat else none
structure Rt (t:Ty):Prop where
 le:Ty.le 4294967295 t
 sh:dV t=true
 rZ:t.rZ
 ar:t.ar.length<=1048576
end Go.VC
namespace Go.VC.cc
open Go Go.VC Go.Proofs
def Zg:dH:={tt:=tt,n:=43,n0:=3,own:=[6,21],live:=[66,67,68,69,70],pC:=[38,39],ox:=[4]}
def F33{env:List IF}{de:D}(he:de=bt dy env)(dJ:ey env){ctx:List Pm}{dc:D}(hc:dc=bt dB ctx)(oV:ctx.length<=1048576){j dm:D}{wr:Bool}{s t:Ty}(hs:Rt s)(g:Rt t){n:Int}{k:Int}{a1 a2:S}{a3 a4:D}{m:Int}{b1 b2:S}{p o:D}(ha:cr s k a1 a2 a3 a4)(hb:cr t m b1 b2 p o)
 {K:PV->List Ob->Prop} (h:∀r b,mB (nT env ctx s t n) r b->K (.tup [.row 50 3,.bool b]) (KY de dc j dm wr r)):
 FT 33 (qP de dc j dm wr) [.box 0 0,.int .i64 n,kq k a1 a2 a3 a4 m b1 b2 p o] K:=by
 refine el Zg Tryz.func33 λA C L X=>?_;have Y:=fg X.a;have dA:=IV X.a;have e1:A.lt n 1=decide (n<1):=dA n 1;have e2:A.lt 5 n=decide (5<n):=dA 5 n;unfold nT at h;cbv;by_cases f:1<=n/\n<=5
 ·have d:A.lt n 1=false:=by rw[e1];simpa using f.1
  have c:A.lt 5 n=false:=by rw[e2];simpa using f.2
  rw[if_pos f]at h;repeat' (first|apply bk|exact zf|(intro J;first|exact yB d J|exact yB c J|cbv)|apply bB)
  refine X.cut (λ(z:D×Bool)=>⟨[(10,.bool z.2),(9,.row 50 3)],[.box [.lst 97 de,.lst 73 dc,.row 9 4,.mp 2],.dead,.map .str 4 dm,.row 50 z.1 true,.row 9 j wr]⟩) (λz=>mB (lK env ctx s t n.toNat) z.1 z.2) ?_ ?_
  ·clear Y dA e1 e2 d c h;have i:n=1\/n=2\/n=3\/n=4\/n=5:=yO;clear f;obtain rfl:=X.a;rcases i with rfl|rfl|rfl|rfl|rfl
   all_goals (
    cbv;repeat' (first|apply bk|exact zf|(intro J;cbv)|apply bB|(refine X.call (F66 hs.le hs.sh g.sh ha hb λr b a=>?_);cbv)|(refine X.call (F67 hs.le g.le hs.rZ g.rZ ha hb λr b a=>?_);cbv)|(refine X.call (F68 he dJ hs.ar ha hb λr b a=>?_);cbv)|(refine X.call (F69 he dJ hc oV hs.le ha hb λr b a=>?_);cbv)|(refine X.call (F70 he dJ g.le ha hb λr b a=>?_);cbv))
    all_goals first
     |trivial
     |(simp only[Int.NonNeg];decide)
     |exact⟨_⟩
     |(exact⟨(r,b),a,[0,1,2,7,8],rfl,yc⟩)
     |trace_state)
  rintro⟨r,b⟩ a;simp only at a;cases b with
  |false=>
   have z:A.not false=true:=by rw[Y];rfl
   have q:=λr'=>h r' false (by obtain⟨h1,_⟩:=a;exact mB.no (by cases e:lK env ctx s t n.toNat with|none=>rfl|some l=>rw[e]at h1;cases h1));cbv;repeat' (first|apply bk|exact zf|(intro J;first|exact yB z J|cbv)|apply bB)
   all_goals exact q _
  |true=>
   have z:A.not true=false:=by rw[Y];rfl
   have q:=h r true a;cbv;repeat' (first|apply bk|exact zf|(intro J;first|exact yB z J|cbv)|apply bB)
   all_goals exact q
 ·rw[if_neg f]at h;have q:=λr=>h r false (mB.no rfl);repeat' (first|apply bk|exact zf|(intro J;cbv)|apply bB)
  all_goals first
   |exact q _
   |(exfalso
     have d:A.lt n 1=false:=yA;have c:A.lt 5 n=false:=yA;rw[e1]at d;rw[e2]at c;have:=of_decide_eq_false d;have:=of_decide_eq_false c;omega)
end Go.VC.cc
namespace Go.VC
open Go
def wo(s:S):S:=Lib.itoa s.length++58::s
mutual
def Ty.tx:Ty->S| .mk k m n ar fl=>40::(Lib.itoa k++32::(wo m++(wo n++91::(Ty.rv ar++93::123::(Ty.qu fl++[125,41])))))
def Fe.tx:Fe->S| .mk s t b=>wo s++(Lib.formatBool b++Ty.tx t)
def Ty.rv:List Ty->S|[]=>[]|t::l=>Ty.tx t++Ty.rv l
def Ty.qu:List Fe->S|[]=>[]|t::l=>Fe.tx t++Ty.qu l
end
def Gj{a b:S}{x y:S}(h:wo a++x=wo b++y):a=b/\x=y:=by simp only[wo,bL,dL]at h;obtain⟨h1,_,h3⟩:=xm (by unfold isNum nX;decide) (by unfold isNum nX;decide) h;exact sd h3 yO
def T8(a:S):∃c l,wo a=c::l/\isNum c:=by
 unfold wo;cases h:Lib.itoa (a.length:Int)with
 |nil=>exact absurd h (by unfold Lib.itoa;rw[if_neg yO];exact(iR _).2.2)
 |cons c l=>exact⟨c,_,rfl,zo _ c (by rw[h];simp)⟩
def QN(t:Ty):∃l,t.tx=40::l:=by cases t;exact⟨_,rfl⟩
def Re(f:Fe):∃c l,f.tx=c::l/\isNum c:=by
 cases f with
 |mk s t b=>obtain⟨c,l,h,hc⟩:=T8 s;exact⟨c,_,by rw[Fe.tx,h];rfl,hc⟩
mutual
def Cl:∀(t u:Ty){x y:S},t.tx++x=u.tx++y->t=u/\x=y
 | .mk k m n ar fl,.mk k' m' n' ar' Z6,x,y,h=>by simp only[Ty.tx,bL,dL,lW,true_and]at h;obtain⟨h0,_,g0⟩:=xm (by unfold isNum nX;decide) (by unfold isNum nX;decide) h;obtain⟨h1,g1⟩:=Gj g0;obtain⟨J,g2⟩:=Gj g1;obtain⟨h3,g3⟩:=Ie ar ar' (jP g2).2;obtain⟨h4,g4⟩:=Ig fl Z6 (jP g3).2;subst h0 h1 J h3 h4;exact⟨rfl,yU g4⟩
def Sy:∀(t u:Fe){x y:S},t.tx++x=u.tx++y->t=u/\x=y
 | .mk s t b,.mk s' t' b',x,y,h=>by
  simp only[Fe.tx,bL]at h;obtain⟨h1,h⟩:=Gj h;have et:Lib.formatBool true=[116,114,117,101]:=yD;have ef:Lib.formatBool false=[102,97,108,115,101]:=yD;have hb:b=b':=by cases b<;>cases b'<;>first|rfl|(rw[et,ef]at h;exact absurd (jP h).1 yD)
  subst hb;obtain⟨J,h3⟩:=Cl t t' (List.append_cancel_left h);subst h1 J;exact⟨rfl,h3⟩
def Ie:∀(l k:List Ty){x y:S},Ty.rv l++93::x=Ty.rv k++93::y->l=k/\x=y
 |[],[],x,y,h=>by simpa[Ty.rv]using h
 |[],u::k,x,y,h=>by obtain⟨z,hz⟩:=QN u;rw[Ty.rv,Ty.rv,hz]at h;exact absurd (jP h).1 yD
 |t::l,[],x,y,h=>by obtain⟨z,hz⟩:=QN t;rw[Ty.rv,Ty.rv,hz]at h;exact absurd (jP h).1 yD
 |t::l,u::k,x,y,h=>by simp only[Ty.rv,bL]at h;obtain⟨h1,J⟩:=Cl t u h;obtain⟨h3,h4⟩:=Ie l k J;subst h1 h3;exact⟨rfl,h4⟩
def Ig:∀(l k:List Fe){x y:S},Ty.qu l++125::x=Ty.qu k++125::y->l=k/\x=y
 |[],[],x,y,h=>by simpa[Ty.qu]using h
 |[],u::k,x,y,h=>by obtain⟨c,z,hz,hc⟩:=Re u;rw[Ty.qu,Ty.qu,hz]at h;exact absurd ((jP h).1▸hc) (by unfold isNum nX;decide)
 |t::l,[],x,y,h=>by obtain⟨c,z,hz,hc⟩:=Re t;rw[Ty.qu,Ty.qu,hz]at h;exact absurd ((jP h).1.symm▸hc) (by unfold isNum nX;decide)
 |t::l,u::k,x,y,h=>by simp only[Ty.qu,bL]at h;obtain⟨h1,J⟩:=Sy t u h;obtain⟨h3,h4⟩:=Ig l k J;subst h1 h3;exact⟨rfl,h4⟩
end
def qc(j:Jm):S:=j.1.tx++j.2.tx
def E6{a b:Jm}(h:qc a=qc b):a=b:=by obtain⟨h1,J⟩:=Cl a.1 b.1 h;obtain⟨h3,_⟩:=Cl a.2 b.2 (x:=[]) (y:=[]) (yU J);exact fq h1 h3
def Gi{s:S}(h:s.length<=1048576):(wo s).length<=1048584:=by unfold wo Lib.itoa;rw[if_neg yO];have:=Di 6 s.length yO;simp;omega
mutual
def Gs:∀t:Ty,(∀u∈t.all,u.Of)->t.tx.length+1100000<=3300000*t.size
 | .mk k m n ar fl,h=>by have hs:=h _ (fK _);have h1:=Ic ar λu hu=>h u (by rw[Ty.all];simp[hu]);have J:=If fl (λu hu=>h u (by rw[Ty.all];simp[hu])) hs.me.f;have a1:=rq hs.k.1 (by have:=hs.k.2;omega);have a2:=Gi hs.me.m;have a3:=Gi hs.me.n;simp only[Ty.k,Ty.m,Ty.n,tv,bp,bI,bZ]at a1 a2 a3;rw[Ty.tx,Ty.size];simp only[bp,bI,bZ];omega
def Sx:∀t:Fe,(∀u∈t.all,u.Of)->t.s.length<=1048576->t.tx.length<=3300000*t.size
 | .mk s t b,h,hs=>by
  have h1:=Gs t λu hu=>h u (by rw[Fe.all];exact hu);have a1:=Gi (s:=s) hs;have a2:(Lib.formatBool b).length<=5:=by cases b<;>decide
  rw[Fe.tx,Fe.size];simp only[bp];omega
def Ic:∀l:List Ty,(∀u∈Ty.ra l,u.Of)->(Ty.rv l).length<=3300000*Ty.lZ l
 |[],h=>by simp[Ty.rv]
 |t::l,h=>by have h1:=Gs t λu hu=>h u (by rw[Ty.ra];simp[hu]);have J:=Ic l λu hu=>h u (by rw[Ty.ra];simp[hu]);rw[Ty.rv,Ty.lZ,bp];omega
def If:∀l:List Fe,(∀u∈Ty.rb l,u.Of)->(∀f∈l,f.s.length<=1048576)->(Ty.qu l).length<=3300000*Ty.ma l
 |[],h,_=>by simp[Ty.qu]
 |t::l,h,hs=>by have h1:=Sx t (λu hu=>h u (by rw[Ty.rb];simp[hu])) (hs t yS);have J:=If l (λu hu=>h u (by rw[Ty.rb];simp[hu])) λf hf=>hs f (by simp[hf]);rw[Ty.qu,Ty.ma,bp];omega
end
def Ct.tx{t:Ty}(h:Ct t)(hs:t.size<=200):t.tx.length<=660000000:=by
 have key:∀u∈t.all,u.Of:=λu hu=>by
  have h1:u.size<=t.size:=FO t hu;have J:=iY u;have h3:u.eA.length=u.ar.length+u.fl.length:=by simp[Ty.eA]
  exact⟨h.me u hu,(h.rZ u hu).k,yO,yO⟩
 have:=Gs t key;omega
end Go.VC
namespace Go.VC
section
variable {i:Nat}{l:List Ty}
def Cj:∀(l k:List Ty),Ty.rv (l++k)=Ty.rv l++Ty.rv k
 |[],k=>rfl
 |t::l,k=>by rw[dL,Ty.rv,Cj l k,Ty.rv,bL]
def Ck:∀(l k:List Fe),Ty.qu (l++k)=Ty.qu l++Ty.qu k
 |[],k=>rfl
 |t::l,k=>by rw[dL,Ty.qu,Ck l k,Ty.qu,bL]
def Lh(h:i<l.length):Ty.rv (l.take (i+1))=Ty.rv (l.take i)++l[i].tx:=by rw[cj h,Cj,Ty.rv,Ty.rv,cz]
def Li{l:List Fe}(h:i<l.length):Ty.qu (l.take (i+1))=Ty.qu (l.take i)++l[i].tx:=by rw[cj h,Ck,Ty.qu,Ty.qu,cz]
def OF:(Ty.rv (l.take i)).length<=(Ty.rv l).length:=by
 have:Ty.rv l=Ty.rv (l.take i)++Ty.rv (l.drop i):=by rw[<- Cj,cV]
 rw[this];simp
def OG{l:List Fe}:(Ty.qu (l.take i)).length<=(Ty.qu l).length:=by
 have:Ty.qu l=Ty.qu (l.take i)++Ty.qu (l.drop i):=by rw[<- Ck,cV]
 rw[this];simp
def QO(t:Ty):t.tx=[40]++Lib.itoa t.k++[32]++wo t.m++wo t.n++[91]++Ty.rv t.ar++[93,123]++Ty.qu t.fl++[125,41]:=by cases t;simp[Ty.tx,Ty.k,Ty.m,Ty.n,Ty.ar,Ty.fl,bL]
end
end Go.VC
namespace Go.VC.cc
open Go Go.VC Go.Proofs Go.Shelf
section
variable {K:PV->List Ob->Prop}
def Ky{A:pP}(h:A=Std){a b:S}(hl:a.length+b.length<=9223372036854775807):A.inr .i64 (A.add (A.fe a) (A.fe b)):=by rw[h];simp only[SD];omega
def Vw:dH:={tt:=tt,n:=10,n0:=2,live:=[130]}
def TF{l:S}{d:D}{p:PV}(j:d= .list (dR l))(k:p= .nilp\/p= .box 0 0){s:S}(hs:l.length+(wo s).length<=4294967296)
 (h:∀r,r= .list (dR (l++wo s))->K (.tup []) [.box [.box 0 0,.row 5 2],.dead,.row 5 r true]):FT 129 [.box [p,.row 5 1],.row 5 d true] [.str s,.box 0 0] K:=by
 refine el Vw Tryz.func129 λA C L X=>?_;have c:A.fe s=bj s.length:=yX;have e:wo s=Lib.itoa (A.fe s)++[58]++s:=by rw[c,wo];simp
 have m:s.length<=4294967296:=by unfold wo at hs;simp at hs;omega
 rw[e]at h hs;have hr: -9223372036854775808<=A.fe s/\A.fe s<=9223372036854775807:=by rw[c];simp only[bD];omega
 clear e c;rcases k with rfl|rfl
 all_goals (
  cbv;refine X.call (Qy hr.1 hr.2 λb f=>?_);have f:b=Lib.itoa (A.fe s):=f;rw[<- f]at h hs;obtain⟨w,g⟩:∃w,w=b++[58]++s:=⟨_,rfl⟩;have hc:A.kM (A.kM b [58]) s=w:=by rw[X.a,g];rfl
  have n:A.kM b [58]=b++[58]:=yX;simp only[bp]at hs;have c1:A.inr .i64 (A.add (A.fe b) (A.fe [58])):=Ky X.a yO;have c2:A.inr .i64 (A.add (A.fe (A.kM b [58])) (A.fe s)):=Ky X.a (by rw[n,bp];omega);rw[<- bp,<-bp,<-g]at hs;rw[<- g]at h;cbv;refine⟨c1,c2,?_⟩)
 ·refine X.call (uJ (s:=A.kM (A.kM b [58]) s) j (.inl rfl) (by rw[hc];exact hs) λr2 a=>?_);rw[hc]at a;have q:=h _ a;cbv;exact q
 ·refine X.call (uJ (s:=A.kM (A.kM b [58]) s) j (.inr rfl) (by rw[hc];exact hs) λr2 a=>?_);rw[hc]at a;have q:=h _ a;cbv;exact q
def Y0:dH:={tt:=tt,n:=59,own:=[3],live:=[129,130,132],iU:=g65.iU}
def F65:∀(t:Ty),Ty.le 4294967295 t->(∀u∈t.all,0<=u.k/\u.k<=10)->∀{H:Int}{c1 c2:S}{R p:D}(ht:cr t H c1 c2 R p)(hs:t.tx.length<=4294967296){K:PV->List Ob->Prop}
 (h:∀r,r=t.tx->K (.str r) []),FT 65 [] [dQ H c1 c2 R p] K:=by
 refine Ty.fV λt ih=>?_;intro F N H c1 c2 R p ht hs K h;obtain⟨t0,t1,t2,V,B⟩:=ht;obtain⟨am,ag⟩:=N t (fK t);have ay:t.ar.length<=4294967295:=by cases F;assumption
 have aC:t.fl.length<=4294967295:=by cases F;assumption
 rw[QO,<-t0,<-t1,<-t2]at hs;rw[QO,<-t0,<-t1,<-t2]at h;rw[<- t0]at am ag;refine en Y0 Tryz.func65 λA C L X=>?_;obtain⟨n,Q,b⟩:=lenOf V;obtain⟨o,P,c⟩:=lenOf B;have kr: -9223372036854775808<=H/\H<=9223372036854775807:=yO;cbv;refine X.call (Qy kr.1 kr.2 λz E=>?_);have E:z=Lib.itoa H:=E;rw[<- E]at h hs;obtain⟨w,hw⟩:∃w,w=[40]++z++[32]:=⟨_,rfl⟩;have hc:A.kM (A.kM [40] z) [32]=w:=by rw[X.a,hw];rfl
 have hs:w.length+(wo c1).length+(wo c2).length+1+(Ty.rv t.ar).length+2+(Ty.qu t.fl).length+2<=4294967296:=by rw[hw];simp only[bp,bI,bZ]at hs ⊢;omega
 have al:z.length+2=w.length:=by rw[hw];simp
 have e0:A.kM [40] z=[40]++z:=yX;have k1:A.inr .i64 (A.add (A.fe [40]) (A.fe z)):=Ky X.a (by simp only[bI,bZ];omega);have k2:A.inr .i64 (A.add (A.fe (A.kM [40] z)) (A.fe [32])):=Ky X.a (by rw[e0];simp only[bp,bI,bZ];omega);rw[<- hw]at h;cbv;refine⟨k1,k2,?_⟩;refine X.call (uJ (l:=[]) (s:=A.kM (A.kM [40] z) [32]) rfl (.inl rfl) (by rw[hc];simp only[bZ];omega) λr2 M=>?_);rw[hc,jd]at M;clear hw al E k1 k2 e0;cbv;refine X.call (TF (s:=c1) M (.inr rfl) yO λr3 ac=>?_);cbv;refine X.call (TF (s:=c2) ac (.inr rfl) (by rw[bp];omega) λr4 W=>?_);cbv;refine X.call (uJ (s:=[91]) W (.inr rfl) (by simp only[bp,bI,bZ];omega) λr5 I=>?_);obtain⟨v,hv⟩:∃v,v=w++wo c1++wo c2++[91]:=⟨_,rfl⟩;have hs:v.length+(Ty.rv t.ar).length+2+(Ty.qu t.fl).length+2<=4294967296:=by rw[hv];simp only[bp,bI,bZ];omega
 rw[<- hv]at I h;clear M ac W hv;cbv;refine lP X (λy=>y.1<=n/\y.2= .list (dR (v++Ty.rv (t.ar.take y.1)))) (λy=>n-y.1) (0,r5) ⟨bw _,by simpa[Ty.rv]using I⟩ [0,6,2] (λ(y:Nat×D)=>⟨[(28,.int .i64 y.1),(27,.int .i64 (A.len R)),(26,.lst 29 R),(4,.cu 129 [.box 2 0]),(3,.box 2 0),(1,.box 0 0)],[.box [.int .i64 H,.str c1,.str c2,.lst 29 R,.lst 57 p],.row 5 y.2 true,.box [.box 2 0,.row 5 1]]⟩) ?_;clear I;rintro⟨k,r⟩ ⟨hk,hr⟩;simp only at hk hr;cbv;constructor<;>intro h1
 ·have h5:k<t.ar.length:=lY X.a b h1;have q:=iS X.a V h5;have T:=iX X.a V h5;have aj:=jX X.a h5;have e:t.ar[k]∈t.eA:=by simp[Ty.eA]
  have d:=Lh h5;have j:=OF (l:=t.ar) (i:=k+1);rw[d,bp]at j;clear h1;cbv;refine⟨T,?_⟩;refine X.call (ih _ e (iW F _ e) (λu hu=>N u (jr e hu)) q yO λr6 m=>?_);rw[<- m]at j;cbv;refine X.call (uJ hr (.inr rfl) (by rw[bp];omega) λG g=>?_);have q1:G= .list (dR (v++Ty.rv (t.ar.take (k+1)))):=by rw[d,<-bL,<-m];exact g
  clear m g;refine p1 ?_;exact⟨(k+1,G),⟨yP,q1⟩,yP,[0,4,2],rfl,yc⟩
 have h5:k=n:=gY X.a b h1;rw[h5,Q,bz]at hr;clear h1 hk h5;cbv;refine X.call (uJ (s:=[93,123]) hr (.inr rfl) (by simp only[bp,bI,bZ];omega) λU a=>?_);obtain⟨u,hu⟩:∃u,u=v++Ty.rv t.ar++[93,123]:=⟨_,rfl⟩;have hs:u.length+(Ty.qu t.fl).length+2<=4294967296:=by rw[hu];simp only[bp,bI,bZ];omega
 rw[<- hu]at a h;clear hr hu;cbv;refine lP X (λy=>y.1<=o/\y.2= .list (dR (u++Ty.qu (t.fl.take y.1)))) (λy=>o-y.1) (0,U) ⟨bw _,by simpa[Ty.qu]using a⟩ [0,3,2] (λ(y:Nat×D)=>⟨[(40,.int .i64 y.1),(39,.int .i64 (A.len p)),(38,.lst 57 p),(4,.cu 129 [.box 2 0]),(3,.box 2 0),(1,.box 0 0)],[.box [.int .i64 H,.str c1,.str c2,.lst 29 R,.lst 57 p],.row 5 y.2 true,.box [.box 2 0,.row 5 1]]⟩) ?_;clear a;rintro⟨k,r⟩ ⟨hk,hr⟩;simp only at hk hr;cbv;constructor<;>intro h1
 ·have h5:k<t.fl.length:=lY X.a c h1;have q:=nq X.a B h5;obtain⟨k2,k3⟩:=Hq X.a B h5;have T:=iX X.a B h5;have aj:=jX X.a h5;have e:t.fl[k].t∈t.eA:=by simp only[Ty.eA,bE,bH];exact .inr ⟨_,br h5,rfl⟩
  have d:=Li h5;have j:=OG (l:=t.fl) (i:=k+1);have O:t.fl[k].tx=wo (A.bG (A.cell p (bj k) 0))++(Lib.formatBool (A.asBool (A.cell p (bj k) 6))++t.fl[k].t.tx):=by rw[k2,k3];generalize t.fl[k]=f;cases f;rfl
  rw[d,O]at j;rw[O]at d;simp only[bp]at j;clear h1 k2 k3 O;cbv;refine⟨T,?_⟩;refine X.call (TF (s:=A.bG (A.cell p (bj k) 0)) hr (.inr rfl) (by rw[bp];omega) λr6 m=>?_);cbv;refine⟨λ(_:FF)=>by kernel_rfl,?_⟩;refine X.call (Xs λG g=>?_);have g:G=Lib.formatBool (A.asBool (A.cell p (bj k) 6)):=g;cbv;refine X.call (ih _ e (iW F _ e) (λu hu=>N u (jr e hu)) q yO λU a=>?_);rw[<- a,<-g]at j d;have e0:A.kM G U=G++U:=yX;have k4:A.inr .i64 (A.add (A.fe G) (A.fe U)):=Ky X.a yO;cbv;refine⟨k4,?_⟩;refine X.call (uJ (s:=A.kM G U) m (.inr rfl) (by rw[e0];simp only[bp];omega) λr9 ab=>?_);have q1:r9= .list (dR (u++Ty.qu (t.fl.take (k+1)))):=by rw[d,<-bL,<-bL,<-e0];exact ab
  clear m g a ab;refine p1 ?_;exact⟨(k+1,r9),⟨yP,q1⟩,yP,[0,5,2],rfl,yc⟩
 have h5:k=o:=gY X.a c h1;rw[h5,P,bz]at hr;clear h1 hk h5;cbv;refine X.call (uJ (s:=[125,41]) hr (.inr rfl) (by simp only[bp,bI,bZ];omega) λU a=>?_);obtain⟨x,hx⟩:∃x,x=u++Ty.qu t.fl++[125,41]:=⟨_,rfl⟩;rw[<- hx]at a h;have af:x.length<=4294967296:=by rw[hx];simp only[bp,bI,bZ];omega
 have ak:x≠[]:=by rw[hx];simp
 have q:=h x rfl;clear hr hx;cbv;refine X.call (TD ak af a rfl ?_);cbv;exact q
def F31{s t:Ty}(hs:Ct s)(c:Ct t)(hl:s.size<=200/\t.size<=200)
 {d:Int}{a1 a2:S}{a3 a4:D}{f:Int}{b1 b2:S}{m j:D} (ha:cr s d a1 a2 a3 a4) (hb:cr t f b1 b2 m j) (h:∀r,r=qc (s,t)->K (.str r) []):
 FT 31 [] [kq d a1 a2 a3 a4 f b1 b2 m j] K:=by
 have l1:=hs.tx hl.1;have l2:=c.tx hl.2;refine en g31 Tryz.func31 λA C L X=>?_;cbv;repeat' (first|apply bk|exact zf|(intro J;cbv)|apply bB|(refine X.call (F65 s hs.le (λu hu=>(hs.rZ u hu).k) ha yO λg b=>?_);cbv))
 refine X.call (F65 t c.le (λu hu=>(c.rZ u hu).k) hb yO λr2 a=>?_);have e:A.kM g r2=qc (s,t):=by rw[X.a,b,a];rfl
 have k:A.inr .i64 (A.add (A.fe g) (A.fe r2)):=Ky X.a (by rw[b,a];omega);have h:=h _ e;clear e b a;cbv;exact⟨k,h⟩
end
end Go.VC.cc
namespace Go.VC
noncomputable def hB(env:List IF)(ctx:List Pm)(j:Jm):Bool:=MQ env ctx j.1 j.2
def KI(env:List IF)(ctx:List Pm)(m:List (S×Bool)):Prop:=∀j b,fE m (qc j)=some b->b=hB env ctx j
def KI.nil{env:List IF}{ctx:List Pm}:KI env ctx []:=λj b h=>yC h
def KI.put{env:List IF}{ctx:List Pm}{m:List (S×Bool)}(h:KI env ctx m)(j:Jm):KI env ctx (iV (qc j) (hB env ctx j) m):=λx b e=>by
 rw[ll]at e;by_cases a:x=j
 ·rw[if_pos (by rw[a])]at e;cases e;rw[a]
 ·rw[if_neg (λe'=>a (E6 e'))]at e;exact h x b e
structure Jo (env:List IF) (ctx:List Pm) (C:List Ty) (de dc:D):Prop where
 he:de=bt dy env
 dJ:ey env
 hc:dc=bt dB ctx
 oV:ctx.length<=1048576
 hC:Dw env ctx C
 sh:∀t∈C,dV t=true
def Jo.rt{env:List IF}{ctx:List Pm}{C:List Ty}{de dc:D}(h:Jo env ctx C de dc){t:Ty}(a:t∈C):Rt t:=
 ⟨(h.hC.ct t a).le,h.sh t a,(h.hC.ct t a).rZ t (fK t),by
   have h1:=h.hC.sz t a;have J:=iY t;have h3:t.eA.length=t.ar.length+t.fl.length:=by simp[Ty.eA]
   omega⟩
end Go.VC
namespace Go.VC.cc
open Go Go.VC Go.Proofs
def Zj:dH:={tt:=tt,n:=41,n0:=3,iU:=g29.iU}
def F29{env:List IF}{ctx:List Pm}{C:List Ty}{de dc:D}(P:Jo env ctx C de dc){x dm:D}{m:List (S×Bool)}(o:dm=bt cM m)(n:KI env ctx m){wr:Bool}{s t:Ty}(hs:s∈C)(l:t∈C){F:Int}{a1 a2:S}{a3 a4:D}{B:Int}{b1 b2:S}{y E:D}(ha:cr s F a1 a2 a3 a4)(hb:cr t B b1 b2 y E)
 {K:PV->List Ob->Prop} (h:∀b m' k,b=hB env ctx (s,t)->KI env ctx m'->k=bt cM m'->K (.bool b) (QY de dc x k wr)):
 FT 29 (qP de dc x dm wr) [.box 0 0,kq F a1 a2 a3 a4 B b1 b2 y E] K:=by
 have u:=P.hC.ct s hs;have r:=P.hC.ct t l;refine el Zj Tryz.func29 λA C L X=>?_;have Y:=fg X.a;cbv;refine X.call (F31 u r ⟨P.hC.sz s hs,P.hC.sz t l⟩ ha hb λkey a=>?_);have a:key=qc (s,t):=a;have d:A.nh dm (.str key)=(fE m key).isSome:=by rw[X.a,o];exact lD (f:=λb=>[.bool b])
 have e:∀v,fE m key=some v->A.asBool (A.eY dm (.str key) 0)=v:=λv G=>by rw[X.a,o];show Std.asBool (Std.eY (bt (fm λb=>[.bool b]) m) _ 0)=v;rw[lE G];rfl
 have c:∀b:Bool,A.lM dm (.str key) [.bool b]=bt cM (iV key b m):=λb=>by rw[X.a,o];exact lB (f:=λb:Bool=>[.bool b])
 cbv;constructor<;>intro j
 ·have j:=d.symm.trans j;cases hl:fE m key with
  |none=>rw[hl]at j;cases j
  |some b=>
   have g:=e b hl;have q:=h b m dm (n (s,t) b (by rw[<- a];exact hl)) n o;have z:A.not true=false:=by rw[Y];rfl
   rw[<- g]at q;cbv;repeat' (first|apply bk|exact zf|(intro J;first|exact yB z J|cbv)|apply bB)
   all_goals exact q
 ·have z:A.not false=true:=by rw[Y];rfl
  have w:=ue P.hC hs l;have p:KI env ctx (iV key (hB env ctx (s,t)) m):=by rw[a];exact n.put (s,t)
  have q:=h _ _ _ rfl p (c (hB env ctx (s,t)));clear n h e d c j;cbv;repeat' (first|apply bk|exact zf|(intro J;first|exact yB z J|cbv)|apply bB|(refine X.call (F14 P.he P.dJ P.hc (by have:=P.oV;omega) P.hC hs l w ha hb λb i=>?_);cbv))
  all_goals (
   have i:b=hB env ctx (s,t):=i;subst i;first|exact q|(cbv;exact q)|trace_state)
end Go.VC.cc
namespace Go.VC
abbrev pO(de dc k dm:D)(wr:Bool):List Ob:=[.box [.box 1 0],.box [.lst 97 de,.lst 73 dc,.row 9 2,.mp 3],.row 9 k wr,.map .str 4 dm]
abbrev XL(de dc k dm:D)(wr:Bool):List Ob:=[.box [.box 1 0],.box [.lst 97 de,.lst 73 dc,.row 9 4,.mp 3],.dead,.map .str 4 dm,.row 9 k wr]
end Go.VC
namespace Go.VC.cc
open Go Go.VC Go.Proofs
section
variable {env:List IF}{ctx:List Pm}{C:List Ty}{dc k o:D}{wr:Bool}{K:PV->List Ob->Prop}
def Zc:dH:={tt:=tt,n:=8,n0:=4,live:=[29]}
def F35{de:D}(P:Jo env ctx C de dc){dm:D}{m:List (S×Bool)}(u:dm=bt cM m)(v:KI env ctx m){s t:Ty}(hs:s∈C)(w:t∈C){i:Int}{a1 a2:S}{a3 a4:D}{j:Int}{b1 b2:S}{r n:D}(ha:cr s i a1 a2 a3 a4)(hb:cr t j b1 b2 r n)
 (h:∀b m' a,b=(!hB env ctx (s,t))->KI env ctx m'->a=bt cM m'->K (.bool b) (XL de dc k a wr)):
 FT 35 (pO de dc k dm wr) [kq i a1 a2 a3 a4 j b1 b2 r n,.box 0 0] K:=by
 refine el Zc Tryz.func35 λA C L X=>?_;have Y:=fg X.a;cbv;refine X.call (F29 P u v hs w ha hb λb m' a f e c=>?_);have q:=h (A.not b) m' a (by rw[Y,f]) e c;cbv;exact q
def YT:dH:={tt:=tt,n:=19,n0:=4,live:=[35]}
def Tt{de:D}(P:Jo env ctx C de dc){dm:D}{m:List (S×Bool)}(v:dm=bt cM m)(u:KI env ctx m){l:List Jm}(hl:o=bt dD l)(H:l.length<=4294967290)(E:∀j∈l,j.1∈C/\j.2∈C)
 (h:∀(r:Int) m' e,r=ou (λj=> !hB env ctx j) l->KI env ctx m'->e=bt cM m'->K (.int .i64 r) (XL de dc k e wr)):
 FT 71 (pO de dc k dm wr) [.lst 50 o,.cu 35 [.box 0 0]] K:=by
 refine el YT Tryz.func71 λA C L X=>?_;obtain⟨c,s,a⟩:=lenOf hl;cbv;refine lP X (λy=>y.1<=c/\(∀x∈l.take y.1,(!hB env ctx x)=false)/\∃m,KI env ctx m/\y.2=bt cM m) (λy=>c-y.1) (0,dm) ⟨bw _,yS,m,u,v⟩ [0,1,2,3,4] (λ(y:Nat×D)=>⟨[(8,.int .i64 y.1),(7,.int .i64 (A.len o)),(1,.cu 35 [.box 0 0]),(0,.lst 50 o)],XL de dc k y.2 wr⟩) ?_;clear v u;rintro⟨i,dm⟩ ⟨I,f,m,u,v⟩;simp only at I f u v;cbv;constructor<;>intro h1
 ·have h5:i<l.length:=lY X.a a h1;have N:=iX X.a hl h5;have F:=jX X.a h5;have n:=E _ (br h5);obtain⟨G,M⟩:=Hg X.a hl h5;clear h1;refine p1 ?_;refine X.call (F35 P v u n.1 n.2 G M λb m' e hb B w=>?_);have hb:b= !hB env ctx l[i]:=hb;cbv;repeat' (first|apply bk|exact zf|(intro J;cbv)|apply bB)
  all_goals try exact F
  ·have z:b=true:=yA;exact h _ m' e (mH h5 f (by rw[<- hb];exact z)).symm B w
  ·have z:b=false:=yA;refine⟨(i+1,e),⟨yP,?_,m',B,w⟩,yP,[0,1,2,3,5],rfl,?_⟩
   ·intro x t;rw[cj h5]at t;rcases bE.1 t with t|t
    ·exact f x t
    ·simp at t;subst t;rw[<- hb];exact z
   exact yc
 ·have h5:i=c:=gY X.a a h1;rw[h5,s,bz]at f;have q:=h (-1) m dm (mI f).symm u v;cbv;exact q
def Ze:dH:={tt:=tt,n:=9,n0:=4,live:=[71]}
def Tu{de:D}(P:Jo env ctx C de dc){dm:D}{m:List (S×Bool)}(n:dm=bt cM m)(s:KI env ctx m){l:List Jm}(hl:o=bt dD l)(e:l.length<=4294967290)(f:∀j∈l,j.1∈C/\j.2∈C)
 (h:∀b m' a,b=(l.any λj=> !hB env ctx j)->KI env ctx m'->a=bt cM m'->K (.bool b) (XL de dc k a wr)):
 FT 34 (pO de dc k dm wr) [.lst 50 o,.cu 35 [.box 0 0]] K:=by
 refine el Ze Tryz.func34 λA C L X=>?_;cbv;refine X.call (Tt P n s hl e f λr m' a hr i c=>?_);have q:=h (A.le 0 r) m' a (by rw[X.a,vW,qQ,hr]) i c;cbv;exact q
open Classical in
structure HM (m:List (S×Bool)) (l:List Jm):Prop where
 lk:∀j,fE m (qc j)=if j∈l then some true else none
def HM.nil:HM [] []:=⟨λj=>by simp[fE]⟩
open Classical in
def HM.put{m:List (S×Bool)}{l:List Jm}(h:HM m l)(j:Jm):HM (iV (qc j) true m) (l++[j]):=⟨λx=>by
 rw[ll];by_cases e:x=j
 ·rw[if_pos (by rw[e]),if_pos (by simp[e])]
 ·rw[if_neg (λe'=>e (E6 e')),h.lk];by_cases hl:x∈l
  ·rw[if_pos hl,if_pos (by simp[hl])]
  ·rw[if_neg hl,if_neg (by simp[hl,e])]⟩
abbrev hO(dm:D):List Ob:=[.box [.mp 1],.map .str 4 dm]
def Za:dH:={tt:=tt,n:=9,n0:=2,iU:=[(1,[0,1,2,3,4,5])]}
open Classical in
def F37{dm:D}{m:List (S×Bool)}{hs:List Jm}(r:dm=bt cM m)(v:HM m hs){s t:Ty}(cs:Ct s)(ct:Ct t)(hz:s.size<=200/\t.size<=200){u:Int}{a1 a2:S}{a3 a4:D}{w:Int}{b1 b2:S}{y x:D}(ha:cr s u a1 a2 a3 a4)(hb:cr t w b1 b2 y x)
 {K:PV->List Ob->Prop} (h:∀b,b=decide ((s,t)∉hs)->K (.bool b) (hO dm)):
 FT 37 (hO dm) [kq u a1 a2 a3 a4 w b1 b2 y x,.box 0 0] K:=by
 refine el Za Tryz.func37 λA C L X=>?_;have Y:=fg X.a;have j:∀key,A.nh dm (.str key)=(fE m key).isSome:=λkey=>by rw[X.a,r];exact lD (f:=λb=>[.bool b])
 have q:∀key,key=qc (s,t)->A.asBool (A.eY dm (.str key) 0)=decide ((s,t)∈hs):=λkey e=>by
  have a:=v.lk (s,t);rw[X.a,r,e];show Std.asBool (Std.eY (bt (fm λb:Bool=>[D.bool b]) m) _ 0)=_;by_cases i:(s,t)∈hs
  ·rw[if_pos i]at a;rw[lE a,decide_eq_true i];rfl
  ·rw[if_neg i]at a;rw[uH a,decide_eq_false i];rfl
 have a:=v.lk (s,t);cbv;repeat' (first|apply bk|exact zf|(intro J;cbv)|apply bB|(refine X.call (F31 cs ct hz ha hb λkey c=>?_);cbv))
 all_goals (
  have c:key=qc (s,t):=c;have q:=q key c;rw[<- c]at a
  first
   |exact h (A.not (A.asBool (A.eY dm (.str key) 0))) (by rw[Y,q];simp)
   |(have n:A.nh dm (.str key)=false:=yA
     have n:=(j key).symm.trans n;by_cases i:(s,t)∈hs
     ·rw[if_pos i]at a;rw[a]at n;cases n
     ·exact h (A.not false) (by rw[Y];simp[i]))
   |trace_state)
abbrev Yt(de dx:D):List Ob:=[.box [.lst 97 de],.box [.lst 73 dx]]
abbrev X7(de dx ds:D):List Ob:=[.box [.lst 97 de],.box [.lst 73 dx],.box [.lst 60 ds]]
inductive Jx:List Ob->FuncId->List PV->Prop
 |a {dm}:Jx (hO dm) 37 [.box 0 0]
 |b {de dx}:Jx (Yt de dx) 53 [.box 0 0,.box 1 0]
 |c {de dx ds}:Jx (X7 de dx ds) 54 [.box 0 0,.box 1 0,.box 2 0]
def YU:dH:={tt:=tt,n:=19,n0:=2,live:=[37,53]}
def YS:dH:={tt:=tt,n:=19,n0:=3,live:=[54]}
def Zf:dH:={tt:=tt,n:=9,n0:=2,live:=[71]}
def Zd:dH:={tt:=tt,n:=9,n0:=3,live:=[71]}
section
variable {O:List Ob}{g:FuncId}{gU:List PV}{l:List Jm}{d:D}{p:Jm->Bool}{K:PV->List Ob->Prop}
def jxF(z:Jx O g gU)(s:d=bt dD l)(hl:l.length<=4294967290)
 (G:∀j∈l,∀{B:Int}{a1 a2:S}{a3 a4:D}{w:Int}{b1 b2:S}{v y:D}{E:PV->List Ob->Prop},cr j.1 B a1 a2 a3 a4->cr j.2 w b1 b2 v y->(∀b,b=p j->E (.bool b) O)->FT g O (kq B a1 a2 a3 a4 w b1 b2 v y::gU) E)
 (h:∀r:Int,r=ou p l->K (.int .i64 r) O):FT 71 O [.lst 50 d,.cu g gU] K:=by
 cases z
 all_goals
  first|refine el YU Tryz.func71 λA C L X=>?_|refine el YS Tryz.func71 λA C L X=>?_
  obtain⟨e,m,a⟩:=lenOf s;cbv;refine lu X (λi=>i<=e/\∀x∈l.take i,p x=false) (λi=>e-i) 0 ⟨bw _,yS⟩ (λi=>[(8,.int .i64 i)]) ?_;rintro i ⟨I,n⟩;cbv;constructor<;>intro h1
  ·have h5:i<l.length:=lY X.a a h1;obtain⟨F,H⟩:=Hg X.a s h5;have u:=iX X.a s h5;have t:=jX X.a h5;clear h1;cbv;repeat' (first|apply bk|exact zf|(intro J;cbv)|apply bB)
   any_goals exact u
   refine X.call (G _ (br h5) F H λb c=>?_);have c:b=p l[i]:=c;cbv;repeat' (first|apply bk|exact zf|(intro J;cbv)|apply bB)
   any_goals exact t
   ·have z:b=true:=yA;exact h i (mH h5 n (by rw[<- c,z])).symm
   ·have z:b=false:=yA;refine⟨i+1,⟨yO,?_⟩,yO,?_⟩
    ·rw[cj h5];intro x f;rcases bE.1 f with f|f
     ·exact n x f
     ·simp at f;subst f;rw[<- c,z]
    exact yc
  ·have h5:i=e:=gY X.a a h1;rw[h5,m,bz]at n;have q:=h (-1) (mI n).symm;cbv;exact q
def Yn(z:Jx O g gU)(m:d=bt dD l)(hl:l.length<=4294967290)
 (n:∀j∈l,∀{a:Int}{a1 a2:S}{a3 a4:D}{c:Int}{b1 b2:S}{f e:D}{i:PV->List Ob->Prop},cr j.1 a a1 a2 a3 a4->cr j.2 c b1 b2 f e->(∀b,b=p j->i (.bool b) O)->FT g O (kq a a1 a2 a3 a4 c b1 b2 f e::gU) i)
 (h:∀b,b=l.any p->K (.bool b) O):FT 34 O [.lst 50 d,.cu g gU] K:=by
 have s:=z;cases z
 all_goals
  first|refine el Zf Tryz.func34 λA C L X=>?_|refine el Zd Tryz.func34 λA C L X=>?_
  cbv;refine X.call (jxF s m hl n λr hr=>?_);have q:=h (A.le 0 r) (by rw[X.a,vW,qQ,hr]);cbv;exact q
end
end
end Go.VC.cc
namespace Go.VC
open Classical
abbrev rT:=Int×Jm
def jA(x:rT):List D:=.int x.1::dD x.2
noncomputable def qA(p:Nat->Option (List Jm))(hb:Jm->Bool):List Nat->Option (Nat×List Jm)
 |[]=>none
 |r::d=>match p r with
  |none=>qA p hb d
  |some l=>if l.any (λj=> !hb j)then qA p hb d else some (r,l)
abbrev Qk:=List Jm×List rT
noncomputable def mN(p:Jm->Nat->Option (List Jm))(hb:Jm->Bool):Nat->Jm->Qk->Qk
 |0,_,st=>st
 |n+1,j,(sn,out)=>if j∈sn then(sn,out)else match qA (p j) hb [1,2,3,4,5]with
  |none=>(sn++[j],out)
  |some (r,l)=>l.foldl (λst x=>mN p hb n x st) (sn++[j],out++[((r:Int),j)])
structure VI (C:List Ty) (st:Qk):Prop where
 mem:∀j∈st.1,j.1∈C/\j.2∈C
 nd:st.1.Nodup
 len:st.2.length<=st.1.length
def VI.push{C:List Ty}{sn:List Jm}{out:List rT}(h:VI C (sn,out)){j:Jm}(d:j.1∈C/\j.2∈C)(f:j∉sn):VI C (sn++[j],out):=⟨λx c=>by rcases bE.1 c with c|c;exact h.mem x c;simp at c;subst c;exact d,by rw[dk];exact⟨h.nd,yS,λa ha b hb=>by simp at hb;subst hb;exactλe=>f (e▸ha)⟩,by have:=h.len;simp at this ⊢;omega⟩
def VI.step{C:List Ty}{sn:List Jm}{out:List rT}{j:Jm}(h:VI C (sn,out))(a:j.1∈C/\j.2∈C)(b:j∉sn)(x:rT):VI C (sn++[j],out++[x]):=⟨(h.push a b).mem,(h.push a b).nd,by have:=h.len;simp at this ⊢;omega⟩
def VI.TR{C:List Ty}{st:Qk}(h:VI C st)(hC:C.length<=140):st.1.length<=19600/\st.2.length<=19600:=by have h1:=rG h.nd (k:=wm C) λx a=>oN.2 (h.mem x a);rw[oO]at h1;have J:C.length*C.length<=140*140:=lG hC hC;have h3:=h.len;omega
def uW{C:List Ty}{p:Jm->Nat->Option (List Jm)}{hb:Jm->Bool}(oV:∀j,j.1∈C->j.2∈C->∀r l,p j r=some l->∀x∈l,x.1∈C/\x.2∈C):∀n j st,j.1∈C/\j.2∈C->VI C st->VI C (mN p hb n j st)/\∃a b,(mN p hb n j st)=(st.1++a,st.2++b):=by
 intro n;induction n with
 |zero=>intro j st f h;exact⟨h,[],[],by simp[mN]⟩
 |succ n o=>
  intro j ⟨sn,out⟩ f h;rw[mN];split
  ·exact⟨h,[],[],yS⟩
  ·rename_i m;split
   ·exact⟨h.push f m,[j],[],yS⟩
   ·rename_i r l c
    have hl:∀x∈l,x.1∈C/\x.2∈C:=by
     have:∀d:List Nat,qA (p j) hb d=some (r,l)->p j r=some l:=by
      intro d;induction d with
      |nil=>intro e;cases e
      |cons a d g=>
       intro e;rw[qA]at e;split at e
       ·exact g e
       ·split at e
        ·exact g e
        ·cases e;assumption
     exact oV j f.1 f.2 r l (this _ c)
    have key:∀(l:List Jm)(st:Qk),(∀x∈l,x.1∈C/\x.2∈C)->VI C st->VI C (l.foldl (λst x=>mN p hb n x st) st)/\∃a b,l.foldl (λst x=>mN p hb n x st) st=(st.1++a,st.2++b):=by
     intro l;induction l with
     |nil=>intro st _ h;exact⟨h,[],[],yS⟩
     |cons x l i=>intro st k h;obtain⟨h1,a,b,e⟩:=o x st (k x yS) h;obtain⟨J,s,b',e'⟩:=i _ (λy q=>k y (by simp[q])) h1;refine⟨J,a++s,b++b',?_⟩;rw[fy,e',e];simp
    obtain⟨h1,a,b,e⟩:=key l _ hl (h.step f m _);exact⟨h1,[j]++a,[((r:Int),j)]++b,by rw[e];simp⟩
end Go.VC
namespace Go.VC
abbrev vO(de dc b a d dm:D)(wr c:Bool):List Ob:=[.box [.mp 4],.box [.box 5 0],.box [.row 60 6],.box [.cu 30 [.box 0 0,.box 1 0,.box 2 0,.box 3 0]],.map .str 4 a,.box [.lst 97 de,.lst 73 dc,.row 9 7,.mp 8],.row 60 d c,.row 9 b wr,.map .str 4 dm]
abbrev XE(de dc b a c dm:D):List Ob:=[.box [.mp 4],.box [.box 5 0],.box [.row 60 9],.box [.cu 30 [.box 0 0,.box 1 0,.box 2 0,.box 3 0]],.map .str 4 a,.box [.lst 97 de,.lst 73 dc,.row 9 10,.mp 8],.dead,.dead,.map .str 4 dm,.row 60 c true,.row 9 b true]
def Ah(env:List IF)(ctx:List Pm):Jm->Nat->Option (List Jm):=λj r=>lK env ctx j.1 j.2 r
end Go.VC
namespace Go.VC.cc
open Go Go.VC Go.Proofs
section
variable {K:PV->List Ob->Prop}
def F32{d:D}(a:d=kA [1,2,3,4,5])(h:K (.lst 3 d) []):FT 32 [] [] K:=by
 refine en (cf 2) Tryz.func32 λA C L X=>?_;have e:A.lit [[.int 1],[.int 2],[.int 3],[.int 4],[.int 5]]=d:=by rw[X.a,a];rfl
 have q:=h;rw[<- e]at q;cbv;exact q
def Qz{s t:Ty}(hs:Ct s)(e:Ct t)(hl:s.size<=200/\t.size<=200)
 {a:Int}{a1 a2:S}{a3 a4:D}{b:Int}{b1 b2:S}{d c:D} (ha:cr s a a1 a2 a3 a4) (hb:cr t b b1 b2 d c) {key:S} (hk:key=qc (s,t)) (h:K (.str key) []):
 FT 31 [] [kq a a1 a2 a3 a4 b b1 b2 d c] K:=F31 hs e hl ha hb λr hr=>by rw[hr,<-hk];exact h
def SV(env:List IF)(ctx:List Pm)(C:List Ty)(de dc j:D)(n:Nat):Prop:=
 ∀{s t:Ty}{sn:List Jm}{out:List rT}{ms m:List (S×Bool)}{e o dm:D}{h:Int}{a1 a2:S}{a3 a4:D}{i:Int}{b1 b2:S}{l k:D}{K:PV->List Ob->Prop},s∈C->t∈C->jL C sn<n->VI C (sn,out)->
  e=bt cM ms->HM ms sn->o=bt jA out->dm=bt cM m->KI env ctx m->cr s h a1 a2 a3 a4->cr t i b1 b2 l k->
  (∀d b f m' a c g,(d,b)=mN (Ah env ctx) (hB env ctx) n (s,t) (sn,out)->a=bt cM f->HM f d->c=bt jA b->g=bt cM m'->KI env ctx m'->K (.tup []) (XE de dc j a c g))->
  FT 30 (vO de dc j e o dm true true) [kq h a1 a2 a3 a4 i b1 b2 l k,.box 0 0,.box 1 0,.box 2 0,.box 3 0] K
def Zh:dH:={tt:=tt,n:=59,n0:=9,iU:=[(1,[0,1,2,3]),(2,[0,1,2,3])],live:=[30,33,34,35]}
open Classical in
def F30{env:List IF}{ctx:List Pm}{C:List Ty}{de dc:D}(P:Jo env ctx C de dc){dv:D}{n:Nat}(ih:SV env ctx C de dc dv n):SV env ctx C de dc dv (n+1):=by
 intro s t sn out ms m O dt dm a0 a1 a2 a3 a4 b0 b1 b2 b3 b4 K hs ht bg hI ad hM c hm hK ha hb h;have aH:=P.hC.ct s hs;have aM:=P.hC.ct t ht;have aj:∀j:Jm,j.1∈C->j.2∈C->∀r l,Ah env ctx j r=some l->∀x∈l,x.1∈C/\x.2∈C:=λj h1 J r l e x hx=>P.hC.closed j.1 h1 j.2 J r l e x hx;have a8:=P.hC.len;refine el Zh Tryz.func30 λA C2 L X=>?_;have Y:=fg X.a;have al:=IV X.a;obtain⟨key,Q⟩:∃k,k=qc (s,t):=⟨_,rfl⟩;have H:=hM.lk (s,t);rw[<- Q]at H
 have hv:A.asBool (A.eY O (.str key) 0)=decide ((s,t)∈sn):=by
  rw[X.a,ad];show Std.asBool (Std.eY (bt (fm λb:Bool=>[D.bool b]) ms) _ 0)=_;by_cases I:(s,t)∈sn
  ·rw[if_pos I]at H;rw[lE H,decide_eq_true I];rfl
  ·rw[if_neg I]at H;rw[uH H,decide_eq_false I];rfl
 by_cases I:(s,t)∈sn
 ·have q:=h sn out ms m O dt dm (by rw[mN,if_pos I]) ad hM c hm hK;rw[decide_eq_true I]at hv;cbv;repeat' (first|apply bk|exact zf|(intro J;first|exact yB hv J|cbv)|apply bB|(refine X.call (Qz aH aM ⟨P.hC.sz s hs,P.hC.sz t ht⟩ ha hb Q ?_);cbv))
  all_goals exact q
 have M:A.lM O (.str key) [.bool true]=bt cM (iV (qc (s,t)) true ms):=by rw[Q,X.a,ad];exact lB (f:=λb:Bool=>[.bool b])
 have ah:VI C (sn++[(s,t)],out):=hI.push ⟨hs,ht⟩ I;have v:=hM.put (s,t)
 have o:∀ag E V m' B ae p,(ag,E)=(match qA (Ah env ctx (s,t)) (hB env ctx) [1,2,3,4,5]with
  |none=>(sn++[(s,t)],out)
  |some (r,l)=>l.foldl (λst x=>mN (Ah env ctx) (hB env ctx) n x st) (sn++[(s,t)],out++[((r:Int),(s,t))]))->B=bt cM V->HM V ag->ae=bt jA E->p=bt cM m'->KI env ctx m'->K (.tup []) (XE de dc dv B ae p):=λag E V m' B ae p e=>h ag E V m' B ae p (by rw[mN,if_neg I];exact e)
 clear h;obtain⟨S0,ar⟩:∃x,x=qA (Ah env ctx (s,t)) (hB env ctx) [1,2,3,4,5]:=⟨_,rfl⟩;rw[<- ar]at o;rw[decide_eq_false I]at hv;obtain⟨d,hd⟩:∃d,d=kA [1,2,3,4,5]:=⟨_,rfl⟩;have ao:A.len d=5:=by rw[X.a,hd];rfl
 have u:=zi (C:=C) (g:=sn) (j:=(s,t)) hs ht I;clear H hM ad;cbv;repeat' (first|apply bk|exact zf|(intro J;first|exact yB hv J|cbv)|apply bB|(refine X.call (Qz aH aM ⟨P.hC.sz s hs,P.hC.sz t ht⟩ ha hb yA ?_);cbv)|(refine X.call (F32 hd ?_);cbv))
 refine X.ka (λ(y:Nat×D)=>⟨[(21,.int .i64 y.1),(20,.int .i64 (A.len d)),(19,.lst 3 d),(5,.box 11 0),(1,.box 0 0),(2,.box 1 0),(3,.box 2 0),(4,.box 3 0)],XE de dc dv (A.lM O (.str key) [.bool true]) dt y.2++[.box [.int .i64 a0,.str a1,.str a2,.lst 29 a3,.lst 57 a4,.int .i64 b0,.str b1,.str b2,.lst 29 b3,.lst 57 b4]]⟩)
  (λy=>y.1<=5/\S0=qA (Ah env ctx (s,t)) (hB env ctx) (mE (y.1+1))/\∃m,y.2=bt cM m/\KI env ctx m) (λy=>5-y.1) (0,dm) ⟨by simp only;omega,ar,m,hm,hK⟩ ?_ ?_
 ·exact⟨[0,1,2,3,4,5,6,7,8,9,10,11],rfl,yc⟩
 clear hm hK m dm;rintro⟨k,dm⟩ ⟨hk,a,m,hm,hK⟩;simp only at hk a hm hK;cbv;constructor<;>intro h1
 ·have bq:k<=4:=by have h1:A.lt (bj k) (A.len d)=true:=h1;rw[ao,al]at h1;have:=of_decide_eq_true h1;simp only[bD]at this;omega
  have ac:A.idx (bj k) (A.len d):=by rw[ao,X.a,n5];simp only[bD];omega
  have af:A.inr .i64 (A.add (bj k) 1):=by rw[X.a];exact fN (n:=6) yO yO
  have T:A.asInt (A.cell d (bj k) 0)=bj (k+1):=by rw[X.a,hd];have:k=0\/k=1\/k=2\/k=3\/k=4:=yO;rcases this with rfl|rfl|rfl|rfl|rfl<;>rfl
  have aN:nT env ctx s t (A.asInt (A.cell d (bj k) 0))=Ah env ctx (s,t) (k+1):=by rw[T];unfold nT;rw[if_pos yL];rfl
  rw[tM ⟨yO,yO⟩,qA]at a;clear h1;cbv;refine⟨ac,?_⟩;refine X.call (F33 P.he P.dJ P.hc P.oV (P.rt hs) (P.rt ht) ha hb λr b hA=>?_);have hA:mB (nT env ctx s t (A.asInt (A.cell d (bj k) 0))) r b:=hA;rw[aN]at hA;obtain⟨ab,aD⟩:=hA;have aS:A.not false=true:=by rw[Y];rfl
  have a9:A.not true=false:=by rw[Y];rfl
  cases hp:Ah env ctx (s,t) (k+1)with
  |none=>
   rw[hp]at ab a;obtain rfl:b=false:=ab;cbv;repeat' (first|apply bk|exact zf|(intro J;first|exact yB aS J|cbv)|apply bB)
   all_goals try exact af
   exact⟨(k+1,dm),⟨yP,a,m,hm,hK⟩,yP,[0,1,2,3,4,5,6,7,8,9,13,11],rfl,yc⟩
  |some l=>
   rw[hp]at ab a;obtain rfl:b=true:=ab;have hr:=aD l hp;have aG:=aj (s,t) hs ht (k+1) l hp
   have bo:l.length<=100000:=by
    have h1:l.length<=s.fl.length+t.fl.length+2*s.ar.length+1:=yk hp;have J:=iY s;have h3:s.eA.length=s.ar.length+s.fl.length:=by simp[Ty.eA]
    have h4:=iY t;have h5:t.eA.length=t.ar.length+t.fl.length:=by simp[Ty.eA]
    have:=P.hC.sz s hs;have:=P.hC.sz t ht;omega
   simp only at a;clear aD;cbv;repeat' (first|apply bk|exact zf|(intro J;first|exact yB a9 J|cbv)|apply bB|(refine X.call (Tu P hm hK hr yO aG λbc m' p aB ax aq=>?_);cbv))
   all_goals try exact af
   ·have z:bc=true:=yA;rw[<- aB,z,if_pos rfl]at a;exact⟨(k+1,p),⟨yP,a,m',aq,ax⟩,yP,[0,1,2,3,4,5,6,7,8,9,14,11],rfl,yc⟩
   ·rw[X.a,c];simp only[SD];have:=(ah.TR a8).2;simp only at this;omega
   have z:bc=false:=yA;rw[<- aB,z,if_neg yD]at a;have am:A.app dt (A.lit [[.int (A.asInt (A.cell d (bj k) 0)),.int a0,.str a1,.str a2,a3,a4,.int b0,.str b1,.str b2,b3,b4]])=bt jA (out++[(((k+1:Nat):Int),(s,t))]):=by rw[T];refine gv (congrArg (λz=>A.app dt (A.lit [.int (bj (k+1))::z])) (jk ha hb)) ?_;rw[X.a,c];exact cD (k:=[(((k+1:Nat):Int),(s,t))])
   have W:VI C (sn++[(s,t)],out++[(((k+1:Nat):Int),(s,t))]):=⟨ah.mem,ah.nd,by have:=hI.len;simp only[bp,bI,bZ]at this ⊢;omega⟩;rw[a]at o;simp only at o;have G:jL C (sn++[(s,t)])<n:=yO;clear ah a ar hm hK T aN hp ac af;obtain⟨F,U⟩:∃F,F=l.foldl (λst x=>mN (Ah env ctx) (hB env ctx) n x st) (sn++[(s,t)],out++[(((k+1:Nat):Int),(s,t))]):=⟨_,rfl⟩;rw[<- U]at o;obtain⟨av,aF,w⟩:=lenOf hr;refine lP X (λy=>y.1<=av/\F=(l.drop y.1).foldl (λst x=>mN (Ah env ctx) (hB env ctx) n x st) y.2.1/\VI C y.2.1/\jL C y.2.1.1<n/\(∃ms,y.2.2.1=bt cM ms/\HM ms y.2.1.1)/\y.2.2.2.1=bt jA y.2.1.2/\∃m,y.2.2.2.2=bt cM m/\KI env ctx m) (λy=>av-y.1) (0,(sn++[(s,t)],out++[(((k+1:Nat):Int),(s,t))]),A.lM O (.str key) [.bool true],_,p) ⟨bw _,U,W,G,⟨_,M,v⟩,am,m',aq,ax⟩ [0,1,2,3,4,5,6,7,8,9,14,12] (λ(y:Nat×Qk×D×D×D)=>⟨[(50,.int .i64 y.1),(49,.int .i64 (A.len r)),(48,.row 50 11),(4,.box 3 0)],XE de dc dv y.2.2.1 y.2.2.2.1 y.2.2.2.2++[.row 50 r false]⟩) ?_;clear U W G M v am aq ax m' p c u;rintro⟨i,⟨ay,R⟩,aJ,aR,aT⟩ ⟨hi,U,aw,u,⟨aV,S,v⟩,c,m2,au,az⟩;simp only at hi U aw u S v c au az;cbv;constructor<;>intro h1
   ·have h5:i<l.length:=lY X.a w h1;have ac:=iX X.a hr h5;have af:=jX X.a h5;have N:=aG _ (br h5);obtain⟨k1,k2⟩:=Hg X.a hr h5;have aL:=uW (hb:=hB env ctx) aj n l[i] (ay,R) N aw;rw[bJ h5,fy]at U;clear h1;cbv;refine⟨ac,?_⟩;refine X.call (ih N.1 N.2 u aw S v c au az k1 k2 λap ak a6 m3 aE aX aY he aC aW an a7 aZ=>?_);have he:(ap,ak)=mN (Ah env ctx) (hB env ctx) n l[i] (ay,R):=he;rw[<- he]at U aL;obtain⟨W,x1,x2,hx⟩:=aL;have G:jL C ap<n:=gS (zj λy hy=>by cases hx;exact cy _ hy) u;refine p1 ?_;exact⟨(i+1,(ap,ak),aE,aX,aY),⟨yP,U,W,G,⟨a6,aC,aW⟩,an,m3,a7,aZ⟩,yP,[0,1,2,3,4,5,6,7,8,13,14,11],rfl,yc⟩
   ·have h5:i=av:=gY X.a w h1;rw[h5,aF,ch,DG]at U;have q:=o ay R aV m2 aJ aR aT U.symm S v c au az;cbv;exact q
 ·have a0:k=5:=by have h1:A.lt (bj k) (A.len d)=false:=h1;rw[ao,al]at h1;have:=of_decide_eq_false h1;simp only[bD]at this;omega
  rw[a0,so,qA]at a;have q:=o (sn++[(s,t)]) out _ m _ dt dm (by rw[a]) M v c hm hK;cbv;exact q
end
end Go.VC.cc
namespace Go.VC
noncomputable def s4(env:List IF)(ctx:List Pm)(j:Jm):List rT:=(mN (Ah env ctx) (hB env ctx) 20000 j ([],[])).2
end Go.VC
namespace Go.VC.cc
open Go Go.VC Go.Proofs
section
variable {C:List Ty}{env:List IF}{ctx:List Pm}{de dc:D}
def T9(P:Jo env ctx C de dc){a:D}:∀n,SV env ctx C de dc a n
 |0=>λ_ _ h=>absurd h (Nat.not_lt_zero _)
 |n+1=>F30 P (T9 P n)
def Bw(h:C.length<=140):jL C []<20000:=by have h1:jL C []<=(wm C).length:=jo _ _;rw[oO]at h1;have J:C.length*C.length<=140*140:=lG h h;omega
def g7k:dH:={tt:=tt,n:=37,own:=[12],live:=[28,29,30]}
def F7(E:nO env de)(hc:dc=bt dB ctx)(oV:ctx.length<=1048576)(m:∀p∈ctx,p.bound.fit/\p.name.length<=1048576){s t:Ty}(fs:s.fit)(x:t.fit)
 (H:kH env ctx s t=true->Jo env ctx C de dc/\s∈C/\t∈C)
 {w:Int}{a1 a2:S}{a3 a4:D}{r:Int}{b1 b2:S}{o v:D} (ha:cr s w a1 a2 a3 a4) (hb:cr t r b1 b2 o v) {K:PV->List Ob->Prop}
 (h0:(kH env ctx s t&&hB env ctx (s,t))=false->K (.tup [.lst 60 (.list []),.bool false]) [])
 (h1:kH env ctx s t=true->hB env ctx (s,t)=true->∀d,d=bt jA (s4 env ctx (s,t))->K (.tup [.lst 60 d,.bool true]) []):
 FT 7 [] [.lst 97 de,.lst 73 dc,dQ w a1 a2 a3 a4,dQ r b1 b2 o v] K:=by
 refine FC.enter (G:=g7k) fD mixed ⟨Tryz.func7,by rfl,rfl⟩ rfl rfl rfl ?_;intro A I L X;have Y:=fg X.a;cbv;refine X.call (F28 E hc oV m fs x ha hb (λe=>?_) λe M dm B h=>?_)
 ·have q:=h0 (by rw[e];rfl);clear h0 h1;cbv;exact q
 ·obtain⟨P,hs,n⟩:=H e;have F:dm=bt cM []:=h;rw[e]at h0;have h1:=h1 e;cbv;repeat' (first|apply bk|exact zf|(intro J;cbv)|apply bB|(refine X.call (F29 P F KI.nil hs n ha hb λb m' k c j g=>?_);cbv))
  ·have z:A.not b=true:=yA;rw[Y,c]at z;exact h0 (yU z)
  ·have z:A.not b=false:=yA;rw[Y,c]at z;have h1:=h1 (yU z);refine X.call (T9 P 20000 hs n (Bw P.hC.len) ⟨yS,yS,bX _⟩ (ms:=[]) rfl HM.nil (out:=[]) rfl g j ha hb λl a y m' u i k he _ _ f _ _=>?_);have he:(l,a)=mN (Ah env ctx) (hB env ctx) 20000 (s,t) ([],[]):=he;have q:=h1 i (by rw[f,s4,<-he]);clear h0 h1 he;cbv;exact q
end
end Go.VC.cc
namespace Go.VC
open Classical
noncomputable def DY(env:List IF)(ctx:List Pm)(hs:List Jm)(x:rT):Bool:=match nT env ctx x.2.1 x.2.2 x.1 with
 |none=>false
 |some m=> !m.any λj=>decide (j∉hs)
noncomputable def xd(env:List IF)(ctx:List Pm)(l:List rT)(j:Jm):Bool:=kH env ctx j.1 j.2&&l.all (λx=>dI env (fC ctx) x.2.1&&dI env (fC ctx) x.2.2)&&l.all (DY env ctx (l.map (·.2)))&&decide (j∈l.map (·.2))
def Ct.fit{t:Ty}(h:Ct t)(hs:t.size<=200):t.fit:=⟨h.le,by omega,h.me⟩
def OS{A:pP}{l:List rT}{d:D}{i:Nat}(ha:A=Std)(a:d=bt jA l)(h:i<l.length):A.asInt (A.cell d (bj i) 0)=l[i].1/\cr l[i].2.1 (A.asInt (A.cell d (bj i) 1)) (A.bG (A.cell d (bj i) 2)) (A.bG (A.cell d (bj i) 3)) (A.cell d (bj i) 4) (A.cell d (bj i) 5)/\cr l[i].2.2 (A.asInt (A.cell d (bj i) 6)) (A.bG (A.cell d (bj i) 7)) (A.bG (A.cell d (bj i) 8)) (A.cell d (bj i) 9) (A.cell d (bj i) 10):=by
 subst ha a;have e:jA l[i]=[.int l[i].1,.int l[i].2.1.k,.str l[i].2.1.m,.str l[i].2.1.n,bt ca l[i].2.1.ar,bt fj l[i].2.1.fl,.int l[i].2.2.k,.str l[i].2.2.m,.str l[i].2.2.n,bt ca l[i].2.2.ar,bt fj l[i].2.2.fl]:=by unfold jA dD;rw[dn,dn];rfl
 unfold cr;rw[cJ h,cJ h,cJ h,cJ h,cJ h,cJ h,cJ h,cJ h,cJ h,cJ h,cJ h,e];exact⟨rfl,⟨rfl,rfl,rfl,rfl,rfl⟩,⟨rfl,rfl,rfl,rfl,rfl⟩⟩
end Go.VC
namespace Go.VC.cc
open Go Go.VC Go.Proofs
def g8k:dH:={tt:=tt,n:=81,iU:=[(11,[0,1,2,3]),(20,[0,1,2,3,4])],live:=[28,33,34,36,37]}
open Classical in
def F8{env:List IF}{de:D}(E:nO env de){ctx:List Pm}{dc:D}(hc:dc=bt dB ctx)(oV:ctx.length<=1048576)(au:∀p∈ctx,p.bound.fit/\p.name.length<=1048576){s t:Ty}(fs:s.fit)(ft:t.fit)
 {C:List Ty} (hP:kH env ctx s t=true->Jo env ctx C de dc/\s∈C/\t∈C) {l:List rT}{n:D} (hl:n=bt jA l) (aF:l.length<=100000) (v:kH env ctx s t=true->∀x∈l,x.2.1∈C/\x.2.2∈C)
 {a0:Int}{a1 a2:S}{a3 a4:D}{b0:Int}{b1 b2:S}{b3 b4:D} (ha:cr s a0 a1 a2 a3 a4) (hb:cr t b0 b1 b2 b3 b4) {K:PV->List Ob->Prop}
 (h:∀b,b=xd env ctx l (s,t)->K (.bool b) []):
 FC Tryz.prog tt 8 [] [.lst 97 de,.lst 73 dc,.lst 60 n,dQ a0 a1 a2 a3 a4,dQ b0 b1 b2 b3 b4] K:=by
 have aa:kH env ctx s t=false->K (.bool false) []:=λe=>h _ (by unfold xd;rw[e];rfl);refine FC.enter (G:=g8k) fD mixed ⟨Tryz.func8,by rfl,rfl⟩ rfl rfl rfl ?_;intro A C' L X;have Y:=fg X.a;cbv;refine X.call (F28 E hc oV au fs ft ha hb (λe=>?_) λe dv dm aq an=>?_)
 ·have q:=aa e;cbv;exact q
 obtain⟨P,hs,ht⟩:=hP e;have v:=v e;have ac:(l.all (λx=>dI env (fC ctx) x.2.1&&dI env (fC ctx) x.2.2))=false->K (.bool false) []:=λe2=>h _ (by unfold xd;rw[e,e2];rfl);have h:(l.all (λx=>dI env (fC ctx) x.2.1&&dI env (fC ctx) x.2.2))=true->∀b,b=(l.all (DY env ctx (l.map (·.2)))&&decide ((s,t)∈l.map (·.2)))->K (.bool b) []:=λe2 b hb=>h b (by unfold xd;rw[e,e2,hb];rfl);have hm:dm=bt cM []:=an;obtain⟨d,i,a⟩:=lenOf hl;clear hP aa e;cbv
 refine X.ka (λ(y:Nat×D)=>⟨[(34,.int .i64 y.1),(33,.int .i64 (A.len n)),(32,.lst 60 n),(2,.lst 60 n),(11,.box 0 0),(12,.box 3 0),(13,.box 4 0)],qP de dc dv dm true++[.box [.int .i64 a0,.str a1,.str a2,.lst 29 a3,.lst 57 a4,.int .i64 b0,.str b1,.str b2,.lst 29 b3,.lst 57 b4],.box [.mp 5],.map .str 4 y.2]⟩)
  (λy=>y.1<=d/\(l.take y.1).all (λx=>dI env (fC ctx) x.2.1&&dI env (fC ctx) x.2.2)=true/\∃m,y.2=bt cM m/\HM m ((l.take y.1).map (·.2))) (λy=>d-y.1) (0,.list []) ⟨bw _,rfl,[],rfl,HM.nil⟩ ?_ ?_
 ·refine⟨[2,3,4,5,7,6],rfl,?_⟩
  (cbv;repeat' apply bk);all_goals try first|trivial|rfl|(rw[X.a];rfl)
 rintro⟨k,dh⟩ ⟨hk,c,mh,H,hH⟩;simp only at hk c H hH;cbv;refine⟨λh1=>?_,λh1=>?_⟩
 ·have h5:k<l.length:=by obtain rfl:=X.a;simp only[a,SD,fP]at h1;omega
  obtain⟨k0,Q,U⟩:=OS X.a hl h5;have O:A.idx (bj k) (A.len n):=by rw[X.a,hl];exact cY h5
  have N:A.inr .i64 (A.add (bj k) 1):=by rw[X.a];exact fN h5 (by omega)
  obtain⟨T,R⟩:=v _ (br h5);have c1:=P.hC.ct _ T;have c2:=P.hC.ct _ R;have z1:=P.hC.sz _ T;have z2:=P.hC.sz _ R;have ap:(fC ctx).length<=4294967295:=by unfold fC;rw[bA];omega
  obtain⟨key,g⟩:∃k',k'=qc (l[k].2.1,l[k].2.2):=⟨_,rfl⟩;have af:A.lM dh (.str key) [.bool true]=bt cM (iV (qc l[k].2) true mh):=by rw[g,X.a,H];exact lB (f:=λb:Bool=>[.bool b])
  clear h1;cbv;refine⟨O,?_⟩;refine X.call (F36 P.he P.dJ aq ap (c1.fit z1) (c2.fit z2) Q U λb B=>?_);have B:b=(dI env (fC ctx) l[k].2.1&&dI env (fC ctx) l[k].2.2):=B;cases b with
  |false=>
   have z:A.not false=true:=by rw[Y];rfl
   have q:=ac (all_false h5 B.symm);cbv;repeat' (first|apply bk|exactλ(_:FF)=>by kernel_rfl|(intro J;first|exact absurd ((z).symm.trans J) (by decide)|cbv)|apply bB)
   all_goals exact q
  |true=>
   have z:A.not true=false:=by rw[Y];rfl
   cbv;repeat' (first|apply bk|exactλ(_:FF)=>by kernel_rfl|(intro J;first|exact absurd ((z).symm.trans J) (by decide)|cbv)|apply bB|(refine X.call (Qz c1 c2 ⟨z1,z2⟩ Q U g ?_);cbv))
   all_goals try exact N
   refine⟨(k+1,_),⟨by simp only;omega,lz h5 c B.symm,_,af,?_⟩,by simp only;omega,[0,8,2,3,4,5],rfl,?_⟩
   ·rw[map_take h5];exact hH.put _
   (cbv;repeat' apply bk);all_goals try first|trivial|rfl|(rw[X.a];rfl)
 have h5:k=d:=by obtain rfl:=X.a;simp only[a,SD,fP]at h1;omega
 rw[h5,i,bz]at c hH;have h:=h c;clear h1 h5 hk c ac;cbv
 refine X.ka (λ(k:Nat)=>⟨[(53,.int .i64 k),(52,.int .i64 (A.len n)),(51,.lst 60 n),(11,.box 0 0),(12,.box 3 0),(13,.box 4 0)],qP de dc dv dm true++[.box [.int .i64 a0,.str a1,.str a2,.lst 29 a3,.lst 57 a4,.int .i64 b0,.str b1,.str b2,.lst 29 b3,.lst 57 b4],.box [.mp 5],.map .str 4 dh]⟩)
  (λk=>k<=d/\(l.take k).all (DY env ctx (l.map (·.2)))=true) (λk=>d-k) 0 ⟨bw _,rfl⟩ ?_ ?_
 ·refine⟨[0,1,2,3,4,5],rfl,?_⟩
  (cbv;repeat' apply bk);all_goals try first|trivial|rfl|(rw[X.a];rfl)
 rintro k ⟨hk,c⟩;cbv;refine⟨λh1=>?_,λh1=>?_⟩
 ·have h5:k<l.length:=by obtain rfl:=X.a;simp only[a,SD,fP]at h1;omega
  obtain⟨k0,Q,U⟩:=OS X.a hl h5;have O:A.idx (bj k) (A.len n):=by rw[X.a,hl];exact cY h5
  have N:A.inr .i64 (A.add (bj k) 1):=by rw[X.a];exact fN h5 (by omega)
  obtain⟨T,R⟩:=v _ (br h5);have W:DY env ctx (l.map (·.2)) l[k]=false->K (.bool false) []:=λe=>h _ (by rw[all_false h5 e];rfl);clear h1;cbv;refine⟨O,?_⟩;refine X.call (F33 P.he P.dJ P.hc P.oV (P.rt T) (P.rt R) Q U λr b hA=>?_);have hA:mB (nT env ctx l[k].2.1 l[k].2.2 (A.asInt (A.cell n (bj k) 0))) r b:=hA;rw[k0]at hA;obtain⟨u,ae⟩:=hA;have am:A.not false=true:=by rw[Y];rfl
  have ar:A.not true=false:=by rw[Y];rfl
  cases o:nT env ctx l[k].2.1 l[k].2.2 l[k].1 with
  |none=>
   rw[o]at u;obtain rfl:b=false:=u;have q:=W (by unfold DY;rw[o]);cbv;repeat' (first|apply bk|exactλ(_:FF)=>by kernel_rfl|(intro J;first|exact absurd ((am).symm.trans J) (by decide)|cbv)|apply bB)
   all_goals exact q
  |some m=>
   rw[o]at u;obtain rfl:b=true:=u;have hr:=ae m o;have ab:DY env ctx (l.map (·.2)) l[k]= !m.any λj=>decide (j∉l.map (·.2)):=by unfold DY;rw[o]
   have ao:∃r',lK env ctx l[k].2.1 l[k].2.2 r'=some m:=by unfold nT at o;split at o;exact⟨_,o⟩;cases o
   obtain⟨r',M⟩:=ao;have w:∀j∈m,j.1∈C/\j.2∈C:=P.hC.closed _ T _ R r' m M
   have aG:m.length<=100000:=by
    have h1:=yk M;have J:=iY l[k].2.1;have h3:l[k].2.1.eA.length=l[k].2.1.ar.length+l[k].2.1.fl.length:=by simp[Ty.eA]
    have h4:=iY l[k].2.2;have h5:l[k].2.2.eA.length=l[k].2.2.ar.length+l[k].2.2.fl.length:=by simp[Ty.eA]
    have:=P.hC.sz _ T;have:=P.hC.sz _ R;omega
   clear ae o M;cbv;repeat' (first|apply bk|exactλ(_:FF)=>by kernel_rfl|(intro J;first|exact absurd ((ar).symm.trans J) (by decide)|cbv)|apply bB|(refine X.call (Yn .a (p:=λj=>decide (j∉l.map (·.2))) hr (by omega) (λj I=>λQ U hK=>F37 H hH (P.hC.ct _ (w j I).1) (P.hC.ct _ (w j I).2) ⟨P.hC.sz _ (w j I).1,P.hC.sz _ (w j I).2⟩ Q U hK) λbc V=>?_);cbv))
   all_goals try exact N
   ·have z:bc=true:=by assumption
    exact W (by rw[ab,<-V,z];rfl)
   ·have z:bc=false:=by assumption
    refine⟨k+1,⟨by omega,lz h5 c (by rw[ab,<-V,z];rfl)⟩,by omega,[0,8,2,3,4,5],rfl,?_⟩
    (cbv;repeat' apply bk);all_goals try first|trivial|rfl|(rw[X.a];rfl)
 have h5:k=d:=by obtain rfl:=X.a;simp only[a,SD,fP]at h1;omega
 rw[h5,i,bz]at c
 have hv:∀key,key=qc (s,t)->A.asBool (A.eY dh (.str key) 0)=decide ((s,t)∈l.map (·.2)):=λkey e=>by
  have F:=hH.lk (s,t);rw[X.a,H,e];show Std.asBool (Std.eY (bt (fm λb:Bool=>[D.bool b]) mh) _ 0)=_;by_cases I:(s,t)∈l.map (·.2)
  ·rw[if_pos I]at F;rw[lE F,decide_eq_true I];rfl
  ·rw[if_neg I]at F;rw[uH F,decide_eq_false I];rfl
 obtain⟨key,g⟩:∃k',k'=qc (s,t):=⟨_,rfl⟩;have q:=h (A.asBool (A.eY dh (.str key) 0)) (by rw[c,hv key g];rfl);clear hv h h1 h5 hk c;cbv;repeat' (first|apply bk|exactλ(_:FF)=>by kernel_rfl|(intro J;cbv)|apply bB|(refine X.call (Qz (P.hC.ct s hs) (P.hC.ct t ht) ⟨P.hC.sz s hs,P.hC.sz t ht⟩ ha hb g ?_);cbv))
 all_goals first|exact q|trace_state
end Go.VC.cc
