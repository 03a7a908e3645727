/- Part 6 of the common texts. -/
import Derived.Test.YtefbdgenddbehaaGreatDoorPart4
set_option linter.all false
set_option maxRecDepth 100000
set_option maxHeartbeats 16000000
open And renaming intro→bw
open Bool renaming and_eq_true→bI,and_false→fb,eq_iff_iff→cm,false_and→fH,not_false→oR,or_eq_true→gh,or_false→mX,or_true→ow,true_and→fB
open Eq renaming trans→ku
open Int renaming ofNat→br,ofNat_eq_natCast→bz
open List renaming all_eq_true→dk,any_append→jB,any_cons→kW,any_eq_false→gS,any_eq_true→dZ,append_assoc→bN,append_nil→cA,cons_append→cO,contains_iff_mem→dr,dropLast_concat_getLast→nR,drop_eq_getElem_cons→bM,drop_eq_nil_of_le→fD,drop_length→bZ,eq_nil_of_length_eq_zero→cz,find?_cons→cB,find?_eq_none→eV,flatMap_append→cV,flatMap_cons→eQ,flatMap_nil→qM,getElem?_append_left→bU,getElem?_eq_getElem→bB,getElem?_eq_none→bY,getElem_mem→bx,length→jt,length_append→bE,length_cons→bS,length_filter_le→th,length_map→bQ,length_nil→cH,length_take→cZ,map_append→cg,map_cons→bO,mem_append→bJ,mem_append_left→eu,mem_append_right→dV,mem_cons→bP,mem_cons_of_mem→gG,mem_flatMap→cN,mem_map→bT,mem_of_find?_eq_some→di,mem_of_getElem?→fv,mem_of_mem_take→ue,nil_append→ep,nodup_append→eb,nodup_cons→cn,pairwise_cons→cJ,take_append_drop→dG,take_append_of_le_length→AF,take_length→bF,take_of_length_le→cG
open List.cons renaming injEq→kr
open Nat renaming add_comm→mn,eq_zero_or_pos→pE,le_refl→ca,le_trans→bR,mul_le_mul→Fy,zero_le→bD
open Ne renaming symm→eh
open Option renaming getD_none→qD,isSome_iff_exists→dy,map_some→cu
open Option.some renaming inj→fF,injEq→cr
open Or renaming inl→bG
open Prod renaming ext→dR
open UInt8 renaming ofNat→mW
namespace Go.VC
section
variable {env:List IF}{ctx:List Pm}{C:List Ty}
theorem Ct.XK(h:BV env ctx C){m:List Jm}(b:∀j∈m,j.1∈C/\j.2∈C):∀j∈m,Ty.le 4294967295 j.1/\Ty.le 4294967295 j.2:=λj a=>⟨(h.ct _ (b j a).1).le,(h.ct _ (b j a).2).le⟩
theorem gx.Ro(h:BV env ctx C){m:Mem}(a:gx C m):m.1.length<=14400/\m.2.length<=14400:=by have h1:=h.len;have J:C.length*C.length<=120*120:=Fy h1 h1;exact⟨bR a.UJ J,bR a.UK J⟩
theorem si{sw:Bool}{b:List Fe}:∀{l:List Fe}{r:List Jm},eY sw b l=some r->r.length=l.length
 |[],r,h=>by rw[eY]at h;cases h;rfl
 |f::l,r,h=>by
  rw[eY]at h;split at h
  ·cases h
  ·split at h
   ·cases h
   ·cases a:eY sw b l with
    |none=>rw[a]at h;cases h
    |some q=>rw[a]at h;simp only[cu,cr]at h;subst h;simp[si a]
theorem Fi:∀{ps:List Pm}{xs ys:List Ty},(oN ps xs ys).length<=2*xs.length
 |[],xs,ys=>by simp[oN]
 |p::ps,[],ys=>by simp[oN]
 |p::ps,a::xs,[]=>by simp[oN]
 |p::ps,a::xs,b::ys=>by have:=Fi (ps:=ps) (xs:=xs) (ys:=ys);rw[oN];simp only[bE,bS];split<;>split<;>simp<;>omega
theorem D2{s t:Ty}{r:Nat}{l:List Jm}(h:kU env ctx s t r=some l):l.length<=s.fl.length+t.fl.length+2*s.ar.length+1:=by
 unfold kU at h;split at h
 ·unfold yF at h;split at h
  ·cases h;simp
  ·cases h
 ·split at h
  ·unfold jk at h;split at h
   ·cases h
   ·split at h
    ·cases h;simp
    ·split at h
     ·have:=si h;omega
     ·split at h
      ·have:=si h;omega
      ·split at h
       ·split at h
        ·cases a:eY false s.fl t.fl with
         |none=>rw[a]at h;cases h
         |some q=>rw[a]at h;have:=si a;cases h;simp;omega
        ·cases h
       ·cases h
  ·split at h
   ·unfold rq at h;split at h
    ·cases h
    ·split at h
     ·cases h
     ·cases h;have:=Fi (ps:=(dD env s.m s.n).1.params) (xs:=s.ar) (ys:=t.ar);omega
   ·split at h
    ·unfold wW at h;cases hb:jf env ctx s with
     |none=>rw[hb]at h;cases h
     |some u=>rw[hb]at h;cases h;simp
    ·unfold yz at h;split at h
     ·cases h;simp
     ·cases h
end
end Go.VC
namespace Go.VC.cK
open Go Go.VC Go.Proofs
open Classical
section
variable {env:List IF}{c d:D}{ctx:List Pm}{C:List Ty}
def Vm:eE:={tt:=tt,n:=97,gK:=Y2.gK,own:=[45,88],qk:=[10,18]}
abbrev UG(i:Nat)(g b:D):List Ob:=match i with
 |0=>[.box [.row 97 5,.lst 97 b],.row 97 g true]
 |_+1=>[.box [.lst 97 g,.lst 97 b],.dead]
theorem Z0(he:c=bH dC env)(hok:dW env)(hc:d=bH ew ctx)(hcl:ctx.length<=4294967295)(hC:BV env ctx C):
 ∀(n:Nat){s t:Ty}(_:s∈C)(_:t∈C){g b:List Jm}{gd bd:D}(_:gd=bH fc g)(_:bd=bH fc b)(_:gx C (g,b)){res:Bool×Mem}(_:lC (kU env ctx) n (s,t) (g,b)=some res)
  {a0:Int}{a1 a2:S}{a3 a4:D}{b0:Int}{b1 b2:S}{b3 b4:D} (_:cD s a0 a1 a2 a3 a4) (_:cD t b0 b1 b2 b3 b4) {K:PV->List Ob->Prop} (_:∀r gd' bd',r=res.1->gd'=bH fc res.2.1->bd'=bH fc res.2.2->K (.tup [.bool r,.agg [.lst 97 gd',.lst 97 bd']]) []),
  FT 25 [] [.lst 51 c,.lst 56 d,df a0 a1 a2 a3 a4,df b0 b1 b2 b3 b4,.agg [.lst 97 gd,.lst 97 bd]] K:=by
 intro n;induction n with
 |zero=>intro s t _ _ g b gd bd _ _ _ res h;rw[lC]at h;cases h
 |succ n ih=>
 intro s t hsC htC g b gd bd hgd hbd hI res hres a0 a1 a2 a3 a4 b0 b1 b2 b3 b4 hs ht K h;have hcs:=hC.ct s hsC;have hct:=hC.ct t htC;obtain⟨hgl,hbl⟩:=hI.Ro hC;simp only at hgl hbl
 have fL:s.ar.length<=1048576:=by
  have:=hC.sz s hsC;have h2:=km s;have h3:s.dP.length=s.ar.length+s.fl.length:=by simp[Ty.dP]
  omega
 rw[lC]at hres;refine FC.enter (G:=Vm) eX mixed ⟨Tryz.func25,by rfl,rfl⟩ rfl rfl rfl ?_;intro A C' L X;cbv;repeat' (first|apply bw|exact zf|(intro h2;cbv)|apply bG|(refine X.call (X0 hbd yO (Ct.XK hC hI.bC) hs ht λkb hkb=>?_);cbv)|(refine X.call (X0 hgd yO (Ct.XK hC hI.gC) hs ht λkg hkg=>?_);cbv))
 ·have hm:((s,t):Jm)∈b:=of_decide_eq_true (hkb.symm.trans yA);rw[if_pos hm]at hres;cases hres;exact h _ _ _ rfl hgd hbd
 ·have hm0:¬((s,t):Jm)∈b:=of_decide_eq_false (hkb.symm.trans yA);have hm:((s,t):Jm)∈g:=of_decide_eq_true (hkg.symm.trans yA);rw[if_neg hm0,if_pos hm]at hres;cases hres;exact h _ _ _ rfl hgd hbd
 have hmb:¬((s,t):Jm)∈b:=of_decide_eq_false (hkb.symm.trans yA);have hmg:¬((s,t):Jm)∈g:=of_decide_eq_false (hkg.symm.trans yA);rw[if_neg hmb,if_neg hmg]at hres;obtain⟨dec,hdec⟩:∃dec,dec=lC (kU env ctx) n:=⟨_,rfl⟩;have hres:gk dec (kU env ctx s t) (s,t) g (kJ 1) b=some res:=by rw[hdec];exact hres
 have hcl':=hC.closed;have hdd:∀j g b r,j.1∈C->j.2∈C->gx C (g,b)->dec j (g,b)=some r->O2 C g b r:=λj g b r x1 x2 x3 x4=>vA hcl' n j g b r x1 x2 x3 (by rw[<- hdec];exact x4);have ef:=mb hs ht;have hneg:=fz X.a;have hle:∀a b:Int,A.le a b=decide (a<=b):=by rw[X.a];exactλ_ _=>rfl
 have hltt:=Dh X.a;clear hkb hkg;refine lp X (λy=>(1<=y.1/\y.1<=6)/\y.2.2=bH fc y.2.1/\gk dec (kU env ctx s t) (s,t) g (kJ y.1) y.2.1=some res/\gx C (g,y.2.1)/\¬(s,t)∈y.2.1) (λy=>6-y.1) (1,b,bd) ⟨⟨ca _,yP⟩,hbd,hres,hI,hmb⟩ (λ(y:Nat×List Jm×D)=>⟨[(13,.int .i64 y.1),(12,.lst 97 y.2.2),(11,.box 3 0),(9,.box 2 0),(8,.box 1 0),(7,.box 0 0),(0,.lst 51 c),(1,.lst 56 d)],[.box [.int .i64 a0,.str a1,.str a2,.lst 29 a3,.lst 42 a4],.box [.int .i64 b0,.str b1,.str b2,.lst 29 b3,.lst 42 b4],.box [.lst 97 gd,.lst 97 bd],.box [.undef,.undef]]⟩) ?_;clear hres hI hmb hbl;rintro⟨k,bl,BL⟩ ⟨⟨hk1,hk6⟩,hbld,hrs,hI,hmb⟩;simp only at hk1 hk6 hbld hrs hI hmb;obtain⟨hgl,hbl⟩:=hI.Ro hC;simp only at hgl hbl;cbv;constructor<;>intro h1
 ·have hk5:k<=5:=by have h1:A.le (br k) 5=true:=h1;rw[hle]at h1;have:=of_decide_eq_true h1;simp only[bz]at this;omega
  rw[uC ⟨hk1,hk5⟩]at hrs;have hin:A.inr .i64 (A.add (br k) 1):=by rw[X.a];exact ek (n:=6) yO yO
  clear h1;cbv;refine X.call (ZL he hok hc hcl hcs.le hct.le (hcs.uy s (ji s)) (hct.uy t (ji t)) fL hs ht (n:=k) ⟨hk1,hk5⟩ λrl kb hAns=>?_);obtain⟨hAb,hAl⟩:=hAns;cbv;refine X.cut (λ(z:D)=>⟨[(16,.box 4 0),(15,.bool kb),(14,.lst 97 rl),(13,.int .i64 k),(12,.lst 97 BL),(11,.box 3 0),(9,.box 2 0),(8,.box 1 0),(7,.box 0 0),(0,.lst 51 c),(1,.lst 56 d)],[.box [.int .i64 a0,.str a1,.str a2,.lst 29 a3,.lst 42 a4],.box [.int .i64 b0,.str b1,.str b2,.lst 29 b3,.lst 42 b4],.box [.lst 97 gd,.lst 97 bd],.box [.undef,.undef],.box [.row 97 5,.lst 97 BL],.row 97 z true]⟩) (λz=>z=bH fc (g++[(s,t)])) ?_ ?_
  ·have e1:A.app (A.app (A.lit []) gd) (A.lit [[.int a0,.str a1,.str a2,a3,a4,.int b0,.str b1,.str b2,b3,b4]])=bH fc (g++[(s,t)]):=by rw[ef,X.a,hgd];refine(congrArg (λz=>Std.app z _) (cx (f:=fc) (l:=[]) (k:=g))).trans ?_;exact cx (k:=[(s,t)])
   have y1:A.fU (A.add (A.len (A.lit [])) (A.len gd)) 4294967296:=by rw[X.a,hgd];simp only[SD];omega
   have y2:∀row:List D,A.fU (A.add (A.len (A.app (A.lit []) gd)) (A.len (A.lit [row]))) 4294967296:=λrow=>by rw[X.a,hgd];simp only[SD];omega
   cbv;repeat' (first|apply bw|exact zf|(intro h2;cbv)|apply bG)
   all_goals try first|exact y1|exact y2 _
   all_goals first
    |(exact⟨_,e1,[0,1,2,3,5,4],rfl,yc⟩
      done)
    |(exact⟨_,e1,[0,1,2,3,4,5],rfl,yc⟩
      done)
    |skip
  ·rintro gn hgn;cases hpr:kU env ctx s t k with
   |none=>
    rw[hpr]at hAb;obtain rfl:kb=false:=hAb;rw[wS hpr]at hrs;cbv;refine lp X (λ_=>True) (λ_=>0) () trivial (λ(_:Unit)=>⟨[(16,.box 4 0),(15,.bool false),(14,.lst 97 rl),(13,.int .i64 k),(12,.lst 97 BL),(11,.box 3 0),(9,.box 2 0),(8,.box 1 0),(7,.box 0 0),(0,.lst 51 c),(1,.lst 56 d)],[.box [.int .i64 a0,.str a1,.str a2,.lst 29 a3,.lst 42 a4],.box [.int .i64 b0,.str b1,.str b2,.lst 29 b3,.lst 42 b4],.box [.lst 97 gd,.lst 97 bd],.box [.undef,.undef],.box [.row 97 5,.lst 97 BL],.row 97 gn true]⟩) ?_;rintro _ _;cbv;repeat' (first|apply bw|exact zf|(intro h2;first|exact absurd (((rfl:(false:Bool)=false)).symm.trans h2) yD|cbv)|apply bG)
    all_goals try exact hin
    all_goals first
     |(exact⟨(k+1,bl,BL),⟨⟨yP,yP⟩,hbld,hrs,hI,hmb⟩,yP,yc⟩)
     |skip
   |some l=>
    rw[hpr]at hAb;obtain rfl:kb=true:=hAb;have hrl:=hAl l hpr;have hlC:=hcl' s hsC t htC k l hpr;obtain⟨q,hq1,hq2,hq3⟩:=wR hpr hrs
    have hll:l.length<=100000:=by
     have h1:=D2 hpr;have h2:=km s;have h3:s.dP.length=s.ar.length+s.fl.length:=by simp[Ty.dP]
     have h4:=km t;have h5:t.dP.length=t.ar.length+t.fl.length:=by simp[Ty.dP]
     have h6:=hC.sz s hsC;have h7:=hC.sz t htC;omega
    clear hAl hrs;obtain⟨n_rl,hn_rl,hlen_rl⟩:=lenOf hrl;cbv;refine lp X (λy=>y.1<=n_rl/\y.2.2.2.1=bH fc y.2.2.1.1/\y.2.2.2.2=bH fc y.2.2.1.2/\gx C y.2.2.1/\(∃x,y.2.2.1.1=g++[(s,t)]++x)/\(y.2.1=true->mN dec (l.drop y.1) y.2.2.1=some q)/\(y.2.1=false->q=(false,y.2.2.1))) (λy=>n_rl-y.1) (0,true,(g++[(s,t)],bl),gn,BL) ⟨bD _,hgn,hbld,hI.push hsC htC hmg hmb,⟨[],yS⟩,λ_=>hq1,λe=>absurd e yS⟩ (λ(y:Nat×Bool×Mem×D×D)=>⟨[(17,.int .i64 y.1),(16,.box 4 0),(15,.bool y.2.1),(14,.lst 97 rl),(13,.int .i64 k),(12,.lst 97 BL),(11,.box 3 0),(9,.box 2 0),(8,.box 1 0),(7,.box 0 0),(0,.lst 51 c),(1,.lst 56 d)],[.box [.int .i64 a0,.str a1,.str a2,.lst 29 a3,.lst 42 a4],.box [.int .i64 b0,.str b1,.str b2,.lst 29 b3,.lst 42 b4],.box [.lst 97 gd,.lst 97 bd],.box [.undef,.undef]]++UG y.1 y.2.2.2.1 y.2.2.2.2⟩) ?_;clear hq1 hgn hpr;rintro⟨i,okb,m,gm,bm⟩ ⟨hi,hgm,hbm,hIm,hxm,hr1,hr2⟩;simp only at hi hgm hbm hIm hxm hr1 hr2;have hend:okb=true->n_rl<=i->K (.tup [.bool true,.agg [.lst 97 gm,.lst 97 bm]]) []:=λe1 e2=>by have h3:=hr1 e1;rw[fD yO,mN]at h3;have hqe:q=(true,m):=(fF h3).symm;have hre:=hq2 (by rw[hqe]);exact h _ _ _ (by rw[hre,hqe]) (by rw[hre,hqe];exact hgm) (by rw[hre,hqe];exact hbm)
    have hfl:okb=false->gk dec (kU env ctx s t) (s,t) g (kJ (k+1)) m.2=some res/\gx C (g,m.2)/\¬(s,t)∈m.2:=λe1=>by
     have hqe:=hr2 e1;have h3:=hq3 (by rw[hqe]);rw[hqe]at h3;obtain⟨x,hx⟩:=hxm;refine⟨h3,?_,hIm.d _ (by rw[hx];simp)⟩;have:gx C (g++([(s,t)]++x),m.2):=by rw[<- bN,<-hx];exact hIm
     exact this.back
    obtain⟨hml1,hml2⟩:=hIm.Ro hC;rcases i with _|i
    ·have hlI:A.lt (br (0)) (A.len rl)=true->0<l.length:=λe=>by rw[hltt,X.a,hlen_rl]at e;have:=of_decide_eq_true e;simp only[bz]at this;omega
     have hlJ:A.lt (br (0)) (A.len rl)=false->n_rl<=0:=λe=>by rw[hltt,X.a,hlen_rl]at e;have:=of_decide_eq_false e;simp only[bz]at this;omega
     have hid:A.lt (br (0)) (A.len rl)=true->A.idx (br (0)) (A.len rl):=λe=>by rw[X.a,hrl];exact cP (hlI e)
     have hinI:A.lt (br (0)) (A.len rl)=true->A.inr .i64 (A.add (br (0)) 1):=λe=>by have:=hlI e;rw[X.a];exact ek (n:=l.length) this yO
     cbv;repeat' (first|apply bw|exact zf|(intro h2;cbv)|apply bG)
     all_goals try first|exact hid yA|exact hin
     all_goals first
      |(exfalso
        have z1:okb=true:=yA;have z2:okb=false:=yA;rw[z1]at z2;cases z2;done)
      |(have z1:okb=true:=yA
        have z2:A.lt (br (0)) (A.len rl)=false:=yA;exact hend z1 (hlJ z2))
      |(have z1:okb=false:=yA
        obtain⟨f1,f2,f3⟩:=hfl z1;exact⟨(k+1,m.2,bm),⟨⟨yP,yP⟩,hbm,f1,f2,f3⟩,yP,yc⟩)
      |(have z1:okb=true:=yA
        have z2:A.lt (br (0)) (A.len rl)=true:=yA;have h5:=hlI z2;have h3:=hr1 z1;rw[bM h5]at h3;obtain⟨r3,g1,g2,g3⟩:=vZ h3;have hmem:=hlC _ (bx h5);have hD:=hdd _ _ _ _ hmem.1 hmem.2 hIm g1;rw[hdec]at g1;obtain⟨k1,k2⟩:=Od X.a hrl h5;have hii:=hinI z2;refine X.call (ih hmem.1 hmem.2 hgm hbm hIm g1 k1 k2 λr4 gd' bd' e1 e2 e3=>?_);cbv;repeat' (first|apply bw|exact zf|(intro h2;cbv)|apply bG)
        all_goals try exact hii
        refine⟨(0+1,r4,r3.2,gd',bd'),⟨?_,e2,e3,hD.inv,?_,?_,?_⟩,?_,?_⟩
        ·simp only;omega
        ·obtain⟨x,hx⟩:=hxm;obtain⟨y,hy,_⟩:=hD.ext;exact⟨x++y,by simp only;rw[hy,hx,bN]⟩
        ·intro e;exact g2 (e1.symm.trans e)
        ·intro e;have e:r3.1=false:=e1.symm.trans e;have:=g3 e;rw[this];exact dR e rfl
        ·simp only;omega
        exact yc)
      |skip
    ·have hlI:A.lt (br (i+1)) (A.len rl)=true->i+1<l.length:=λe=>by rw[hltt,X.a,hlen_rl]at e;have:=of_decide_eq_true e;simp only[bz]at this;omega
     have hlJ:A.lt (br (i+1)) (A.len rl)=false->n_rl<=i+1:=λe=>by rw[hltt,X.a,hlen_rl]at e;have:=of_decide_eq_false e;simp only[bz]at this;omega
     have hid:A.lt (br (i+1)) (A.len rl)=true->A.idx (br (i+1)) (A.len rl):=λe=>by rw[X.a,hrl];exact cP (hlI e)
     have hinI:A.lt (br (i+1)) (A.len rl)=true->A.inr .i64 (A.add (br (i+1)) 1):=λe=>by have:=hlI e;rw[X.a];exact ek (n:=l.length) this yO
     cbv;repeat' (first|apply bw|exact zf|(intro h2;cbv)|apply bG)
     all_goals try first|exact hid yA|exact hin
     all_goals first
      |(exfalso
        have z1:okb=true:=yA;have z2:okb=false:=yA;rw[z1]at z2;cases z2;done)
      |(have z1:okb=true:=yA
        have z2:A.lt (br (i+1)) (A.len rl)=false:=yA;exact hend z1 (hlJ z2))
      |(have z1:okb=false:=yA
        obtain⟨f1,f2,f3⟩:=hfl z1;exact⟨(k+1,m.2,bm),⟨⟨yP,yP⟩,hbm,f1,f2,f3⟩,yP,yc⟩)
      |(have z1:okb=true:=yA
        have z2:A.lt (br (i+1)) (A.len rl)=true:=yA;have h5:=hlI z2;have h3:=hr1 z1;rw[bM h5]at h3;obtain⟨r3,g1,g2,g3⟩:=vZ h3;have hmem:=hlC _ (bx h5);have hD:=hdd _ _ _ _ hmem.1 hmem.2 hIm g1;rw[hdec]at g1;obtain⟨k1,k2⟩:=Od X.a hrl h5;have hii:=hinI z2;refine X.call (ih hmem.1 hmem.2 hgm hbm hIm g1 k1 k2 λr4 gd' bd' e1 e2 e3=>?_);refine p1 ?_;refine⟨(i+1+1,r4,r3.2,gd',bd'),⟨?_,e2,e3,hD.inv,?_,?_,?_⟩,?_,?_⟩
        ·simp only;omega
        ·obtain⟨x,hx⟩:=hxm;obtain⟨y,hy,_⟩:=hD.ext;exact⟨x++y,by simp only;rw[hy,hx,bN]⟩
        ·intro e;exact g2 (e1.symm.trans e)
        ·intro e;have e:r3.1=false:=e1.symm.trans e;have:=g3 e;rw[this];exact dR e rfl
        ·simp only;omega
        exact yc)
      |skip
 ·have hk6':k=6:=by have h1:A.le (br k) 5=false:=h1;rw[hle]at h1;have:=of_decide_eq_false h1;simp only[bz]at this;omega
  rw[hk6',s4,gk]at hrs;cases hrs;refine X.cut (λ(z:D)=>⟨[(10,.bl false),(11,.box 0 0)],[.box [.lst 97 gd,.row 97 1],.row 97 z true]⟩) (λz=>z=bH fc (bl++[(s,t)])) ?_ ?_
  ·have e1:A.app (A.app (A.lit []) BL) (A.lit [[.int a0,.str a1,.str a2,a3,a4,.int b0,.str b1,.str b2,b3,b4]])=bH fc (bl++[(s,t)]):=by rw[ef,X.a,hbld];refine(congrArg (λz=>Std.app z _) (cx (f:=fc) (l:=[]) (k:=bl))).trans ?_;exact cx (k:=[(s,t)])
   have y1:A.fU (A.add (A.len (A.lit [])) (A.len BL)) 4294967296:=by rw[X.a,hbld];simp only[SD];omega
   have y2:∀row:List D,A.fU (A.add (A.len (A.app (A.lit []) BL)) (A.len (A.lit [row]))) 4294967296:=λrow=>by rw[X.a,hbld];simp only[SD];omega
   cbv;repeat' (first|apply bw|exact zf|(intro h2;cbv)|apply bG)
   all_goals try first|exact y1|exact y2 _
   all_goals (
    exact⟨_,e1,[3,4],rfl,yc⟩)
  ·rintro z hz;have q:=h _ _ _ rfl hgd hz;cbv;exact q
def uc(env:List IF)(ctx:List Pm)(C:List Ty)(s t:Ty)(b:Bool):Prop:=∃n m,lC (kU env ctx) n (s,t) ([],[])=some (b,m)
theorem F8(q:c=bH dC env)(e:dW env)(hc:d=bH ew ctx)(g:ctx.length<=4294967295)(p:BV env ctx C){s t:Ty}(f:s∈C)(i:t∈C){a:Bool}(b:uc env ctx C s t a)
 {j:Int}{a1 a2:S}{a3 a4:D}{k:Int}{b1 b2:S}{o l:D} (hs:cD s j a1 a2 a3 a4) (u:cD t k b1 b2 o l) {K:PV->List Ob->Prop} (h:∀r,r=a->K (.bool r) []):
 FT 8 [] [.lst 51 c,.lst 56 d,df j a1 a2 a3 a4,df k b1 b2 o l] K:=by
 obtain⟨n,m,v⟩:=b;refine en g8 Tryz.func8 λA C L X=>?_;cbv;refine X.call (Z0 q e hc g p n f i rfl rfl gx.nil v hs u λr w bd hr _ _=>?_);cbv;exact h _ hr
end
end Go.VC.cK
namespace Go.VC.cK
open Go Go.VC Go.Proofs
section
variable {env:List IF}{ctx:List Pm}{C:List Ty}{f d o k p:D}{n:Nat}{g b l:List Jm}{m:List (S×Bool)}{c:Bool×Mem}{K:PV->List Ob->Prop}
def Da(env:List IF)(ctx:List Pm)(C:List Ty)(f d:D)(n:Nat):Prop:=
 ∀{s t:Ty}{g b:List Jm}{m:List (S×Bool)}{o k:D}{c:Bool×Mem}{h:Int}{a1 a2:S}{a3 a4:D}{i:Int}{b1 b2:S}{q j:D}{K:PV->List Ob->Prop},s∈C->t∈C->
  lC (kU env ctx) n (s,t) (g,b)=some c->gx C (g,b)->MK m g b->o=bH dY m->k=bH encS (g.map jw)->cD s h a1 a2 a3 a4->cD t i b1 b2 q j->
  (∀r m' e a,r=c.1->MK m' c.2.1 c.2.2->e=bH dY m'->a=bH encS (c.2.1.map jw)->K (.bool r) (Yg f d e a true))->
  FT 24 (qO f d o k true) [.box 0 0,Ji h a1 a2 a3 a4 i b1 b2 q j] K
def U9:eE:={tt:=tt,n:=8,n0:=4,live:=[24]}
def U3:eE:={tt:=tt,n:=19,n0:=4,live:=[46]}
def Va:eE:={tt:=tt,n:=9,n0:=4,live:=[74]}
def ZM(N:Da env ctx C f d n){s t:Ty}(z:s∈C)(y:t∈C)(v:lC (kU env ctx) n (s,t) (g,b)=some c)(M:gx C (g,b))(B:MK m g b)(x:o=bH dY m)(w:k=bH encS (g.map jw))
 {H:Int}{a1 a2:S}{a3 a4:D}{F:Int}{b1 b2:S}{E G:D} (hs:cD s H a1 a2 a3 a4) (I:cD t F b1 b2 E G)
 (h:∀r m' e a,r= !c.1->MK m' c.2.1 c.2.2->e=bH dY m'->a=bH encS (c.2.1.map jw)->K (.bool r) (Us f d e a)):
 FT 46 (fO f d o k) [Ji H a1 a2 a3 a4 F b1 b2 E G,.box 0 0] K:=by
 refine el U9 Tryz.func46 λA O L X=>?_;have Y:=fz X.a;cbv;refine X.call (N z y v M B x w hs I λr m' e a hr u j i=>?_);have q:=h (A.not r) m' e a (by rw[Y,hr]) u j i;cbv;exact q
def ZA(W:BV env ctx C)(ih:Da env ctx C f d n)(hl:p=bH fc l)(aa:l.length<=4294967290)(U:∀j∈l,j.1∈C/\j.2∈C)(a:mN (lC (kU env ctx) n) l (g,b)=some c)(P:gx C (g,b))(w:MK m g b)(v:o=bH dY m)(u:k=bH encS (g.map jw))
 (h:∀(r:Int) m' E B,(0<=r↔c.1=false)->MK m' c.2.1 c.2.2->E=bH dY m'->B=bH encS (c.2.1.map jw)->K (.int .i64 r) (Us f d E B)):
 FT 74 (fO f d o k) [.lst 67 p,.cy 46 [.box 0 0]] K:=by
 refine el U3 Tryz.func74 λA C2 L X=>?_;have Y:=fz X.a;obtain⟨N,I⟩:∃N,N=lC (kU env ctx) n:=⟨_,rfl⟩;rw[<- I]at a;have Q:=W.closed;obtain⟨x,M,s⟩:=lenOf hl;cbv
 refine X.iC (λ(y:Nat×Mem×D×D)=>⟨[(8,.int .i64 y.1),(7,.int .i64 (A.len p)),(1,.cy 46 [.box 0 0]),(0,.lst 67 p)],[.box [.box 1 0],.box [.lst 51 f,.lst 56 d,.mp 2,.row 9 4],.map .str 4 y.2.2.1,.dead,.row 9 y.2.2.2 true]⟩)
  (λy=>y.1<=x/\mN N (l.drop y.1) y.2.1=some c/\gx C y.2.1/\(∃m,MK m y.2.1.1 y.2.1.2/\y.2.2.1=bH dY m)/\y.2.2.2=bH encS (y.2.1.1.map jw)) (λy=>x-y.1) (0,(g,b),o,k) ⟨bD _,a,P,⟨m,w,v⟩,u⟩ ?_ ?_
 ·exact⟨[0,1,2,3,4],rfl,yc⟩
 clear a P w v u;rintro⟨i,mem,o,k⟩ ⟨hi,a,P,⟨m,w,v⟩,u⟩;simp only at hi a P w v u;cbv;constructor<;>intro h1
 ·have h5:i<l.length:=lY X.a s h1;have ag:=iX X.a hl h5;have ac:=jX X.a h5;rw[bM h5]at a;obtain⟨O,g1,g2,g3⟩:=vZ a;have t:=U _ (bx h5);obtain⟨V,k2⟩:=Od X.a hl h5;rw[I]at g1;have hD:=vA Q n l[i] mem.1 mem.2 O t.1 t.2 P g1;clear h1;refine p1 ?_;refine X.call (ZM ih t.1 t.2 g1 P w v u V k2 λr m' E B hr H G F=>?_);cbv;constructor<;>intro z
  ·have e3:O.1=false:=by
    have R:r=true:=z;cases T:O.1 with
    |false=>rfl
    |true=>rw[R,T]at hr;cases hr
   have e4:=g3 e3;have q:=h (br i) m' E B ⟨λ_=>by rw[e4];exact e3,λ_=>yL⟩ (by rw[e4];exact H) G (by rw[e4];exact F);cbv;exact q
  ·have e3:O.1=true:=by
    have R:r=false:=z;cases T:O.1 with
    |true=>rfl
    |false=>rw[R,T]at hr;cases hr
   have e4:=g2 e3;refine p1 ?_;exact⟨(i+1,O.2,E,B),⟨yP,e4,hD.inv,⟨m',H,G⟩,F⟩,yP,[0,1,2,3,5],rfl,yc⟩
 ·have h5:i=x:=gY X.a s h1;rw[h5,M,bZ,mN]at a;cases a;have q:=h (-1) m o k ⟨λe=>absurd e yD,λe=>yC e⟩ w v u;clear h1;cbv;repeat' (first|apply bw|exact zf|(intro J;cbv)|apply bG)
  exact q
def ZN(F:BV env ctx C)(H:Da env ctx C f d n)(hl:p=bH fc l)(x:l.length<=4294967290)(B:∀j∈l,j.1∈C/\j.2∈C)(u:mN (lC (kU env ctx) n) l (g,b)=some c)(G:gx C (g,b))(E:MK m g b)(w:o=bH dY m)(y:k=bH encS (g.map jw))
 (h:∀r m' i e,r= !c.1->MK m' c.2.1 c.2.2->i=bH dY m'->e=bH encS (c.2.1.map jw)->K (.bool r) (Us f d i e)):
 FT 45 (fO f d o k) [.lst 67 p,.cy 46 [.box 0 0]] K:=by
 refine el Va Tryz.func45 λA I L X=>?_;have z:∀a b:Int,A.le a b=decide (a<=b):=by rw[X.a];exactλ_ _=>rfl
 cbv;refine X.call (ZA F H hl x B u G E w y λr m' i e hr v s t=>?_);have q:=h (A.le 0 r) m' i e (by rw[z,cm,decide_eq_true_iff,hr];cases c.1<;>simp) v s t;cbv;exact q
end
section
variable {env:List IF}{t s:Ty}{c d k j a3 a4 f g:D}{wr:Bool}{i a:Int}{a1 a2 b1 b2:S}{K:PV->List Ob->Prop}
def Vc:eE:={tt:=tt,n:=28,n0:=3,xz:=[21,22],own:=[6,26],qk:=[1]}
def Vb:eE:={tt:=tt,n:=30,n0:=3,xz:=[21,22,23],own:=[6,27],qk:=[3]}
def ZP(B:c=bH dC env)(m:dW env){ctx:List Pm}(hc:d=bH ew ctx)(p:ctx.length<=4294967295)(w:Ty.le 4294967295 s)(hs:cD s i a1 a2 a3 a4)(E:cD t a b1 b2 f g)
 (h:∀r b,n1 (wW env ctx s t) r b->K (.tup [.row 67 3,.bool b]) (qR c d k j wr r)):
 FT 43 (qO c d k j wr) [.box 0 0,df i a1 a2 a3 a4,df a b1 b2 f g] K:=by
 refine el Vc Tryz.func43 λA C L X=>?_;unfold wW at h;cbv
 refine X.cut (λ(z:(Int×S×S×D×D)×Bool)=>⟨[(9,.bool z.2),(8,.box 6 0),(5,.box 5 0),(4,.box 4 0)],[.box [.lst 51 c,.lst 56 d,.mp 1,.row 9 3],.map .str 4 k,.dead,.row 9 j wr,.box [.int .i64 i,.str a1,.str a2,.lst 29 a3,.lst 42 a4],.box [.int .i64 a,.str b1,.str b2,.lst 29 f,.lst 42 g],.box [.int .i64 z.1.1,.str z.1.2.1,.str z.1.2.2.1,.lst 29 z.1.2.2.2.1,.lst 42 z.1.2.2.2.2]]⟩)
  (λz=>(z.2=true->cD ((jf env ctx s).getD Ty.zero) z.1.1 z.1.2.1 z.1.2.2.1 z.1.2.2.2.1 z.1.2.2.2.2)/\z.2=(jf env ctx s).isSome) ?_ ?_
 ·cbv;repeat' (first|apply bw|exact zf|(intro J;cbv)|apply bG|(refine X.call (Wa B m hc p w hs λv y o n x b hu hb=>?_);cbv))
  all_goals (
   exact⟨((v,y,o,n,x),b),⟨hu,hb⟩,[0,1,2,3,4,5,7],rfl,yc⟩)
 rintro⟨⟨v,y,o,n,x⟩,b⟩ ⟨hu,hb⟩;simp only at hu hb;cases e:jf env ctx s with
 |none=>rw[e]at hb;obtain rfl:b=false:=hb;have q:=λr=>h r false (by rw[e];exact n1.no rfl);cbv;exact q _
 |some u=>rw[e]at hb hu;obtain rfl:b=true:=hb;have q:=h _ true (n1.yes (l:=[(u,t)]) (r:=A.lit [[.int v,.str y,.str o,n,x,.int a,.str b1,.str b2,f,g]]) (by rw[e];rfl) (by refine ku (congrArg (λz=>A.lit [z]) (mb (hu rfl) E)) ?_;rw[X.a];rfl));cbv;exact q
def JA(h:t.k≠10):(dp env t).2.2≠0:=by unfold dp;rw[if_pos h];decide
def ZO(B:c=bH dC env)(w:dW env)(da:Ty.le 4294967295 t)(hs:cD s i a1 a2 a3 a4)(x:cD t a b1 b2 f g)
 (h:∀r b,n1 (yz env s t) r b->K (.tup [.row 67 3,.bool b]) (qR c d k j wr r)):
 FT 44 (qO c d k j wr) [.box 0 0,df i a1 a2 a3 a4,df a b1 b2 f g] K:=by
 refine el Vb Tryz.func44 λA C L X=>?_;have Y:=fz X.a;have Z:=mI X.a;have m:A.not (A.eq a 10)= !(t.k==10):=by rw[Y,Z,x.1]
 unfold yz at h;by_cases hk:t.k=10
 ·have m:A.not (A.eq a 10)=false:=by rw[m,hk];rfl
  cbv;repeat' (first|apply bw|exact zf|(intro J;first|exact yB m J|cbv)|apply bG)
  refine X.cut (λ(z:(Int×S×S×D×D)×Int)=>⟨[(10,.int .i64 z.2),(8,.box 6 0),(5,.box 5 0),(4,.box 4 0)],[.box [.lst 51 c,.lst 56 d,.mp 1,.row 9 3],.map .str 4 k,.dead,.row 9 j wr,.box [.int .i64 i,.str a1,.str a2,.lst 29 a3,.lst 42 a4],.box [.int .i64 a,.str b1,.str b2,.lst 29 f,.lst 42 g],.box [.int .i64 z.1.1,.str z.1.2.1,.str z.1.2.2.1,.lst 29 z.1.2.2.2.1,.lst 42 z.1.2.2.2.2]]⟩)
   (λz=>cD (dp env t).1 z.1.1 z.1.2.1 z.1.2.2.1 z.1.2.2.2.1 z.1.2.2.2.2/\z.2=(dp env t).2.2) ?_ ?_
  ·cbv;repeat' (first|apply bw|exact zf|(intro J;cbv)|apply bG|(refine X.call (XW B w da x λp v o n u g0 g1 g2 g3 g4 r l y hr=>?_);cbv))
   all_goals first
    |(exact⟨((p,v,o,n,u),r),⟨l,hr⟩,[0,1,2,3,4,5,7],rfl,yc⟩
      done)
    |(exact⟨((p,v,o,n,u),r),⟨l,hr⟩,[0,1,2,3,4,5,8],rfl,yc⟩
      done)
    |skip
  rintro⟨⟨p,v,o,n,u⟩,r⟩ ⟨l,hr⟩;simp only at l hr
  have q:=h (A.lit [[.int i,.str a1,.str a2,a3,a4,.int p,.str v,.str o,n,u]]) (A.eq r 0) (by
   rw[Z,hr];by_cases e:(dp env t).2.2=0
   ·rw[if_pos e,e];refine n1.yes rfl ?_;refine ku (congrArg (λz=>A.lit [z]) (mb hs l)) ?_;rw[X.a];rfl
   ·rw[if_neg e];have:((dp env t).2.2==0)=false:=yU e;rw[this];exact n1.no rfl)
  cbv;exact q
 ·have m:A.not (A.eq a 10)=true:=by rw[m];simpa using hk
  have q:=λr=>h r false (n1.no (by rw[if_neg (JA hk)]));cbv;repeat' (first|apply bw|exact zf|(intro J;first|exact yB m J|cbv)|apply bG)
  exact q _
end
end Go.VC.cK
namespace Go.VC
def NJ{s t:Ty}(h:s.k=t.k)(h6:s.k=6):jk s t=eY true s.fl t.fl:=by unfold jk;rw[if_neg (yU h),if_neg yO,if_pos h6]
def NI{s t:Ty}(h:s.k=t.k)(h7:s.k=7):jk s t=eY false t.fl s.fl:=by unfold jk;rw[if_neg (yU h),if_neg yO,if_neg yO,if_pos h7]
end Go.VC
namespace Go.VC.cK
open Go Go.VC Go.Proofs
def Ve:eE:={tt:=tt,n:=106,n0:=3,xz:=[91,92],own:=[6,41],gK:=YS.gK}
def ZQ{G B H F:D}{wr:Bool}{s t:Ty}(aj:Ty.le 4294967295 s)(da:Ty.le 4294967295 t)(y:s.uy)(w:t.uy)(fL:s.fl.length<=1048576/\t.fl.length<=1048576){c:Int}{a1 a2:S}{a3 a4:D}{R:Int}{b1 b2:S}{j b4:D}(hs:cD s c a1 a2 a3 a4)(ht:cD t R b1 b2 j b4)
 {K:PV->List Ob->Prop} (m:∀r b,n1 (jk s t) r b->K (.tup [.row 67 3,.bool b]) (qR G B H F wr r)):
 FT 41 (qO G B H F wr) [.box 0 0,df c a1 a2 a3 a4,df R b1 b2 j b4] K:=by
 obtain⟨U,s1,s2,o,n⟩:=id hs;obtain⟨t0,t1,t2,p,x⟩:=id ht;have T:s.fl.length<=4294967295:=by cases aj;assumption
 have W:t.fl.length<=4294967295:=by cases da;assumption
 have h:jk s t=none->K (.tup [.row 67 3,.bool false]) (qR G B H F wr (.list [])):=λe=>m _ _ (n1.no e);refine el Ve Tryz.func41 λA C L X=>?_;have Y:=fz X.a;have Z:=mI X.a;have v:A.not (A.eq c R)= !(s.k==t.k):=by rw[Y,Z,U,t0]
 have e5:A.eq c 5=(s.k==5):=by rw[Z,U]
 have e6:A.eq c 6=(s.k==6):=by rw[Z,U]
 have e7:A.eq c 7=(s.k==7):=by rw[Z,U]
 have e8:A.eq c 8=(s.k==8):=by rw[Z,U]
 have el:A.not (A.eq (A.len a3) (A.len j))= !(s.ar.length==t.ar.length):=by rw[Y,Z,X.a,o,p,cT,cT,cm];simp[Int.ofNat_inj]
 cbv;by_cases hk:s.k=t.k
 ·have v:A.not (A.eq c R)=false:=by rw[v];simpa using hk
  by_cases h5:s.k=5
  ·have has:=y.a (.inl h5);have a:=w.a (.inl (by rw[<- hk];exact h5));have el:A.not (A.eq (A.len a3) (A.len j))=false:=by rw[el,has,a];rfl
   have has:0<s.ar.length:=yO;have a:0<t.ar.length:=yO;have e5:A.eq c 5=true:=by rw[e5];simpa using h5
   have i1:A.idx 0 (A.len a3):=by rw[X.a,o];exact cP (i:=0) has
   have i2:A.idx 0 (A.len j):=by rw[X.a,p];exact cP (i:=0) a
   have q1:=mb (gI X.a o has) (gI X.a p a);repeat' (first|apply bw|exact zf|(intro J;first|exact yB v J|exact yB el J|exact yB e5 J|cbv)|apply bG)
   all_goals try first|exact i1|exact i2
   refine m _ _ (n1.yes (HO hk h5) ?_);rw[rG has,rG a];refine ku (congrArg (λz=>A.lit [z]) q1) ?_;rw[X.a];rfl
  have e5:A.eq c 5=false:=by rw[e5];simpa using h5
  by_cases h6:s.k=6
  ·have has:=(y.r (.inl h6)).1;have a:=(w.r (.inl (by rw[<- hk];exact h6))).1;have el:A.not (A.eq (A.len a3) (A.len j))=false:=by rw[el,has,a];rfl
   have e6:A.eq c 6=true:=by rw[e6];simpa using h6
   have N:=NJ hk h6;have O:eY true s.fl t.fl=none->K (.tup [.row 67 3,.bool false]) (qR G B H F wr (.list [])):=λe=>m _ _ (n1.no (by rw[N];exact e));have Q:∀l r,eY true s.fl t.fl=some l->r=bH fc l->K (.tup [.row 67 3,.bool true]) (qR G B H F wr r):=λl r e u=>m _ _ (n1.yes (by rw[N];exact e) u);clear m h;repeat' (first|apply bw|exact zf|(intro J;first|exact yB v J|exact yB el J|exact yB e5 J|exact yB e6 J|cbv)|apply bG|(refine X.call (UI.1 x n fL.2 T (λe=>?_) (λl r e ae u=>?_));cbv))
   ·exact O e
   all_goals (
    refine p1 ?_;exact Q _ _ e u)
  have e6:A.eq c 6=false:=by rw[e6];simpa using h6
  by_cases h7:s.k=7
  ·have has:=(y.r (.inr h7)).1;have a:=(w.r (.inr (by rw[<- hk];exact h7))).1;have el:A.not (A.eq (A.len a3) (A.len j))=false:=by rw[el,has,a];rfl
   have e7:A.eq c 7=true:=by rw[e7];simpa using h7
   have N:=NI hk h7;have O:eY false t.fl s.fl=none->K (.tup [.row 67 3,.bool false]) (qR G B H F wr (.list [])):=λe=>m _ _ (n1.no (by rw[N];exact e));have Q:∀l r,eY false t.fl s.fl=some l->r=bH fc l->K (.tup [.row 67 3,.bool true]) (qR G B H F wr r):=λl r e u=>m _ _ (n1.yes (by rw[N];exact e) u);clear m h;repeat' (first|apply bw|exact zf|(intro J;first|exact yB v J|exact yB el J|exact yB e5 J|exact yB e6 J|exact yB e7 J|cbv)|apply bG|(refine X.call (UI.2.1 n x fL.1 W (λe=>?_) (λl r e ae u=>?_));cbv))
   ·exact O e
   all_goals (
    refine p1 ?_;exact Q _ _ e u)
  have e7:A.eq c 7=false:=by rw[e7];simpa using h7
  by_cases h8:s.k=8
  ·have has:=y.a (.inr h8);have a:=w.a (.inr (by rw[<- hk];exact h8));have el:A.not (A.eq (A.len a3) (A.len j))=false:=by rw[el,has,a];rfl
   have has:0<s.ar.length:=yO;have a:0<t.ar.length:=yO;have e8:A.eq c 8=true:=by rw[e8];simpa using h8
   have i1:A.idx 0 (A.len a3):=by rw[X.a,o];exact cP (i:=0) has
   have i2:A.idx 0 (A.len j):=by rw[X.a,p];exact cP (i:=0) a
   have q1:=mb (gI X.a o has) (gI X.a p a);have N:=HN hk h8;rw[N]at h m;obtain⟨q,I,g⟩:=lenOf n;repeat' (first|apply bw|exact zf|(intro J;first|exact yB v J|exact yB el J|exact yB e5 J|exact yB e6 J|exact yB e7 J|exact yB e8 J|cbv)|apply bG)
   refine lP X (λk=>k<=q/\(s.fl.take k).all (λf=>(c8 t.fl f.s).isSome||f.b)=true) (λk=>q-k) 0 ⟨bD _,rfl⟩ [0,1,2,3,4,5] (λ(k:Nat)=>⟨[(65,.int .i64 k),(64,.int .i64 (A.len a4)),(63,.lst 42 a4),(5,.box 5 0),(4,.box 4 0)],[.box [.lst 51 G,.lst 56 B,.mp 1,.row 9 3],.map .str 4 H,.dead,.row 9 F wr,.box [.int .i64 c,.str a1,.str a2,.lst 29 a3,.lst 42 a4],.box [.int .i64 R,.str b1,.str b2,.lst 29 j,.lst 42 b4]]⟩) ?_;rintro k ⟨ac,P⟩;cbv;constructor<;>intro h1
   ·have d:k<s.fl.length:=lY X.a g h1;have k1:=kD X.a n d;have k0:=k1.1;have kb:=k1.2.2;have ai:=iX X.a n d;have af:=jX X.a d;have M:((c8 t.fl s.fl[k].s).isSome||s.fl[k].b)=false->H6 s t=none:=λe=>by unfold H6;rw[HU d e];rfl
    have ah:((c8 t.fl s.fl[k].s).isSome||s.fl[k].b)=true->(s.fl.take (k+1)).all (λf=>(c8 t.fl f.s).isSome||f.b)=true:=λe=>pA d P e;clear h1;cbv;repeat' (first|apply bw|exact zf|(intro J;cbv)|apply bG|(refine X.call (XU x W k0 λg0 g1 g2 g3 g4 g5 g6 b hg hb=>?_);cbv))
    all_goals try first|exact ai|exact af
    all_goals first
     |(have z:A.not b=true:=yA
       have E:A.not (A.asBool (A.cell a4 (br k) 6))=true:=yA;rw[Y,hb]at z;rw[Y,kb]at E;exact h (M (by simp at z E;simp[z,E])))
     |(have e:((c8 t.fl s.fl[k].s).isSome||s.fl[k].b)=true:=by
        first
         |(have z:A.not b=false:=yA
           rw[Y,hb]at z;have z:(c8 t.fl s.fl[k].s).isSome=true:=yU z;rw[z];rfl)
         |(have E:A.not (A.asBool (A.cell a4 (br k) 6))=false:=yA
           rw[Y,kb]at E;have E:s.fl[k].b=true:=yU E;rw[E,ow])
       exact⟨k+1,⟨yO,ah e⟩,yO,[0,1,2,3,4,5],rfl,yc⟩)
     |skip
   ·have d:k=q:=gY X.a g h1;rw[d,I,bF]at P;have hF:H6 s t=(eY false s.fl t.fl).map (· ++[(s8 s.ar,s8 t.ar)]):=by unfold H6 Eg;rw[P,if_pos rfl]
    rw[hF]at m;clear h1 ac d h;cbv;refine X.call (UI.2.2 x n fL.2 T (λe=>?_) (λl r e am u=>?_))
    ·rw[e]at m;cbv;repeat' (first|apply bw|exact zf|(intro J;cbv)|apply bG)
     all_goals try first|exact i1|exact i2
     all_goals first
      |exact m _ _ (n1.no rfl)
      |(show A.fU _ _;rw[X.a];simp only[SD];decide)
      |skip
     all_goals trace_state
    ·rw[e]at m;have hB:∀row:List D,A.fU (A.add (A.len r) (A.len (A.lit [row]))) 4294967296:=λrow=>by rw[X.a,u];simp only[SD];omega
     have V:A.app r (A.lit [[.int (A.asInt (A.cell a3 0 0)),.str (A.bL (A.cell a3 0 1)),.str (A.bL (A.cell a3 0 2)),A.cell a3 0 3,A.cell a3 0 4,.int (A.asInt (A.cell j 0 0)),.str (A.bL (A.cell j 0 1)),.str (A.bL (A.cell j 0 2)),A.cell j 0 3,A.cell j 0 4]])=bH fc (l++[(s8 s.ar,s8 t.ar)]):=by rw[rG has,rG a];refine ku (congrArg (λz=>A.app r (A.lit [z])) q1) ?_;rw[X.a,u];exact cx (k:=[(s.ar[0],t.ar[0])])
     cbv;repeat' (first|apply bw|exact zf|(intro J;cbv)|apply bG)
     all_goals try first|exact i1|exact i2|exact hB _
     all_goals first
      |exact m _ _ (n1.yes rfl V)
      |skip
     all_goals trace_state
  have e8:A.eq c 8=false:=by rw[e8];simpa using h8
  repeat' (first|apply bw|exact zf|(intro J;first|exact yB v J|exact yB e5 J|exact yB e6 J|exact yB e7 J|exact yB e8 J|cbv)|apply bG)
  all_goals exact h (HL h5 h6 h7 h8)
 ·have v:A.not (A.eq c R)=true:=by rw[v];simpa using hk
  repeat' (first|apply bw|exact zf|(intro J;first|exact yB v J|cbv)|apply bG)
  all_goals exact h (HM hk)
end Go.VC.cK
namespace Go.VC
open Go
def GW:∀(m u:Nat),u<10 ^ (m+1)->(Lib.decDigits u).length<=m+1
 |0,u,h=>by rw[Lib.decDigits,dif_pos yO];simp
 |m+1,u,h=>by
  rw[Lib.decDigits];split
  ·simp
  ·have:u/10<10 ^ (m+1):=by rw[Nat.pow_succ]at h;omega
   have:=GW m (u/10) this;rw[bE];simp;omega
def uh{n:Int}(h0:0<=n)(h:n<10000000):(pH n).length<=8:=by unfold pH Lib.itoa;rw[if_neg yO,bE];have:=GW 6 n.toNat yO;simp;omega
structure Ty.RJ (u:Ty):Prop where
 mF:u.mF
 k:0<=u.k/\u.k<=10
 a:u.ar.length<=1048576
 f:u.fl.length<=1048576
mutual
def FI:∀t:Ty,(∀u∈t.all,u.RJ)->t.wr.length+1100000<=3300000*t.size
 | .mk k m n ar fl,h=>by have hs:=h _ (ji _);have h1:=Hi ar λu hu=>h u (by rw[Ty.all];simp[hu]);have J:=Hl fl (λu hu=>h u (by rw[Ty.all];simp[hu])) hs.mF.f;have a1:=uh hs.k.1 (by have:=hs.k.2;omega);have a2:=uh (n:=(m.length:Int)) yO (by have:m.length<=1048576:=hs.mF.m;omega);have a3:=uh (n:=(n.length:Int)) yO (by have:n.length<=1048576:=hs.mF.n;omega);have a4:=uh (n:=(ar.length:Int)) yO (by have:ar.length<=1048576:=hs.a;omega);have a5:=uh (n:=(fl.length:Int)) yO (by have:fl.length<=1048576:=hs.f;omega);have b1:m.length<=1048576:=hs.mF.m;have b2:n.length<=1048576:=hs.mF.n;simp only[Ty.k]at a1;rw[Ty.wr,Ty.size];simp only[bE];omega
def Oi:∀t:Fe,(∀u∈t.all,u.RJ)->t.s.length<=1048576->t.wr.length<=3300000*t.size
 | .mk s t b,h,hs=>by
  have h1:=FI t λu hu=>h u (by rw[Fe.all];exact hu);have hs:s.length<=1048576:=hs;have a1:(Lib.itoa (s.length:Int)).length<=7:=by unfold Lib.itoa;rw[if_neg yO];exact GW 6 _ yO
  have a2:(Lib.formatBool b).length<=5:=by cases b<;>decide
  rw[Fe.wr,Fe.size];simp only[bE];omega
def Hi:∀l:List Ty,(∀u∈Ty.Aw l,u.RJ)->(Ty.qQ l).length<=3300000*Ty.sY l
 |[],h=>by simp[Ty.qQ]
 |t::l,h=>by have h1:=FI t λu hu=>h u (by rw[Ty.Aw];simp[hu]);have J:=Hi l λu hu=>h u (by rw[Ty.Aw];simp[hu]);rw[Ty.qQ,Ty.sY,bE];omega
def Hl:∀l:List Fe,(∀u∈Ty.Ay l,u.RJ)->(∀f∈l,f.s.length<=1048576)->(Ty.tl l).length<=3300000*Ty.sZ l
 |[],h,_=>by simp[Ty.tl]
 |t::l,h,hs=>by have h1:=Oi t (λu hu=>h u (by rw[Ty.Ay];simp[hu])) (hs t yS);have J:=Hl l (λu hu=>h u (by rw[Ty.Ay];simp[hu])) λf hf=>hs f (by simp[hf]);rw[Ty.tl,Ty.sZ,bE];omega
end
def Mv:∀(t:Ty){u:Ty},u∈t.all->u.size<=t.size:=by
 refine Ty.fC (P:=λt=>∀{u:Ty},u∈t.all->u.size<=t.size) λt b u hu=>?_;rw[all_eq]at hu;rcases bP.1 hu with rfl|hu
 ·exact ca _
 ·obtain⟨v,a,hu⟩:=cN.1 hu;have h1:=b v a hu;have J:=uw a;omega
def Ct.wr{t:Ty}(h:Ct t)(hs:t.size<=200):t.wr.length<=660000000:=by
 have key:∀u∈t.all,u.RJ:=λu hu=>by
  have h1:u.size<=t.size:=Mv t hu;have J:=km u;have h3:u.dP.length=u.ar.length+u.fl.length:=by simp[Ty.dP]
  exact⟨h.mF u hu,(h.uy u hu).k,yO,yO⟩
 have:=FI t key;omega
end Go.VC
namespace Go.VC
def Yf:Nat->PV
 |0=>.cy 1000040 [.box 0 0]
 |1=>.cy 1000041 [.box 0 0]
 |2=>.cy 1000042 [.box 0 0]
 |3=>.cy 1000043 [.box 0 0]
 |_=>.cy 1000044 [.box 0 0]
end Go.VC
namespace Go.VC.cK
open Go Go.VC Go.Proofs
def Vn:eE:={tt:=tt,n:=91,n0:=3,gK:=g24.gK,live:=[39,40,41,42,43,44,45],qk:=[11,12]}
open Classical in
theorem Z1{env:List IF}{de:D}(he:de=bH dC env)(hok:dW env){ctx:List Pm}{dc:D}(hc:dc=bH ew ctx)(hcl:ctx.length<=4294967295){C:List Ty}(hC:BV env ctx C):∀n,Da env ctx C de dc n:=by
 intro n;induction n with
 |zero=>intro s t g b m dm dt res a0 a1 a2 a3 a4 b0 b1 b2 b3 b4 K hsC htC hres;rw[lC]at hres;cases hres
 |succ n ih=>
 intro s t g b m dm dt res a0 a1 a2 a3 a4 b0 b1 b2 b3 b4 K hsC htC hres hI hMK hdm hdt hs ht h;have hcs:=hC.ct s hsC;have hct:=hC.ct t htC;have hzs:=hC.sz s hsC;have hzt:=hC.sz t htC;have hws:=hcs.wr hzs;have hwt:=hct.wr hzt;obtain⟨hgl,hbl⟩:=hI.Ro hC;simp only at hgl hbl;rw[lC]at hres;have hcl':=hC.closed;refine el Vn Tryz.func24 λA C2 L X=>?_;have hneg:=fz X.a;have hltt:=Dh X.a;cbv;refine X.call (ZS hcs.le hct.le (λu hu=>(hcs.uy u hu).k) (λu hu=>(hct.uy u hu).k) yO hs ht λkey hkey=>?_);have hkey:key=jw (s,t):=hkey;have hhas:A.pb dm (.str key)=(ia m (jw (s,t))).isSome:=by rw[hkey,X.a,hdm];exact pD (f:=λb=>[.bool b])
 have hget:∀v,ia m (jw (s,t))=some v->A.asBool (A.fI dm (.str key) 0)=v:=λv hv=>by rw[hkey,X.a,hdm];show Std.asBool (Std.fI (bH (fQ λb=>[.bool b]) m) _ 0)=v;rw[vG hv];rfl
 have hlk:=hMK.lk (s,t);cbv;constructor<;>intro hh
 ·have hh:=hhas.symm.trans hh;obtain⟨v,hv⟩:=dy.1 hh;have hg:=hget v hv;rw[hv]at hlk
  have q:=h v m dm dt (by
   by_cases e1:(s,t)∈g
   ·rw[if_pos e1]at hlk;rw[if_neg (hI.d _ e1),if_pos e1]at hres;cases hlk;cases hres;rfl
   ·rw[if_neg e1]at hlk;by_cases e2:(s,t)∈b
    ·rw[if_pos e2]at hlk;rw[if_pos e2]at hres;cases hlk;cases hres;rfl
    ·rw[if_neg e2]at hlk;cases hlk) (by
   have:res.2=(g,b):=by
    by_cases e2:(s,t)∈b
    ·rw[if_pos e2]at hres;cases hres;rfl
    ·rw[if_neg e2]at hres;by_cases e1:(s,t)∈g
     ·rw[if_pos e1]at hres;cases hres;rfl
     ·rw[if_neg e1,if_neg e2]at hlk;cases hlk
   rw[this];exact hMK) hdm (by
   have:res.2=(g,b):=by
    by_cases e2:(s,t)∈b
    ·rw[if_pos e2]at hres;cases hres;rfl
    ·rw[if_neg e2]at hres;by_cases e1:(s,t)∈g
     ·rw[if_pos e1]at hres;cases hres;rfl
     ·rw[if_neg e1,if_neg e2]at hlk;cases hlk
   rw[this];exact hdt)
  rw[<- hg]at q;clear hget hhas;cbv;exact q
 have hh:=hhas.symm.trans hh
 have hmb:(s,t)∉b:=λe=>by
  rw[if_pos e]at hlk;by_cases e1:(s,t)∈g
  ·rw[if_pos e1]at hlk;rw[hlk]at hh;cases hh
  ·rw[if_neg e1]at hlk;rw[hlk]at hh;cases hh
 have hmg:(s,t)∉g:=λe=>by rw[if_pos e]at hlk;rw[hlk]at hh;cases hh
 rw[if_neg hmb,if_neg hmg]at hres;obtain⟨dec,hdec⟩:∃dec,dec=lC (kU env ctx) n:=⟨_,rfl⟩;have hres:gk dec (kU env ctx s t) (s,t) g (kJ 1) b=some res:=by rw[hdec];exact hres
 clear hhas hget hlk hh;have hset:A.p6 dm (.str key) [.bool true]=bH dY (kA (jw (s,t)) true m):=by rw[hkey,X.a,hdm];exact rX (f:=λb:Bool=>[.bool b])
 have hset2:∀d m',d=bH dY m'->A.p6 d (.str key) [.bool false]=bH dY (kA (jw (s,t)) false m'):=λd m' e=>by rw[hkey,X.a,e];exact rX (f:=λb:Bool=>[.bool b])
 have happ:A.app dt (A.lit [[.str key]])=bH encS ((g++[(s,t)]).map jw):=by rw[hkey,X.a,hdt,cg];exact cx (k:=[jw (s,t)])
 have hmark:A.len (A.app dt (A.lit [[.str key]]))=br (g.length+1):=by rw[happ,X.a,cT];simp
 have hmark1:A.sub (A.len (A.app dt (A.lit [[.str key]]))) 1=br g.length:=by rw[hmark,X.a];show br (g.length+1)-1=_;simp only[bz];omega
 have hin1:A.inr .i64 (A.sub (A.len (A.app dt (A.lit [[.str key]]))) 1):=by rw[hmark1,X.a];simp only[SD];omega
 have hbd:A.fU (A.add (A.len dt) (A.len (A.lit [[.str key]]))) 4294967296:=by rw[X.a,hdt];simp only[SD,bQ];omega
 have hglen:((g++[(s,t)]).map jw).length=g.length+1:=yS
 skip
 refine p1 ?_;refine lP X (λy=>y.1<=5/\gk dec (kU env ctx s t) (s,t) g (kJ (y.1+1)) y.2.1=some res/\gx C (g,y.2.1)/\(s,t)∉y.2.1/\(∃m,MK m (g++[(s,t)]) y.2.1/\y.2.2.1=bH dY m)/\y.2.2.2=bH encS ((g++[(s,t)]).map jw)) (λy=>5-y.1) (0,b,A.p6 dm (.str key) [.bool true],A.app dt (A.lit [[.str key]])) ⟨yP,hres,hI,hmb,⟨_,hMK.push,hset⟩,happ⟩ [0,1,2,3,4,5] (λ(y:Nat×(List Jm×D×D))=>⟨[(59,.int .i64 y.1),(58,.agg [.cy 1000040 [.box 0 0],.cy 1000041 [.box 0 0],.cy 1000042 [.box 0 0],.cy 1000043 [.box 0 0],.cy 1000044 [.box 0 0]]),(9,.cy 39 [.box 4 0]),(8,.int .i64 (A.len (A.app dt (A.lit [[.str key]])))),(5,.str key),(3,.box 5 0),(2,.box 4 0)],[.box [.lst 51 de,.lst 56 dc,.mp 1,.row 9 3],.map .str 4 y.2.2.1,.dead,.row 9 y.2.2.2 true,.box [.box 0 0],.box [.int .i64 a0,.str a1,.str a2,.lst 29 a3,.lst 42 a4,.int .i64 b0,.str b1,.str b2,.lst 29 b3,.lst 42 b4]]⟩) ?_;clear hres hI hMK hset happ hbd hmb;rintro⟨k,bl,dmk,dtk⟩ ⟨hk,hrs,hI,hnb,⟨mk,hMK,hdmk⟩,hdtk⟩;simp only at hk hrs hI hnb hMK hdmk hdtk;obtain⟨_,hbll⟩:=hI.Ro hC;simp only at hbll;cbv;constructor<;>intro h1
 ·have hk4:k<=4:=by have h1:A.lt (br k) 5=true:=h1;rw[hltt]at h1;have:=of_decide_eq_true h1;simp only[bz]at this;omega
  have hin:A.inr .i64 (A.add (br k) 1):=by rw[X.a];exact ek (n:=6) yO yO
  rw[uC ⟨yO,yO⟩]at hrs;clear h1;cbv;refine X.cut (λ(_:Unit)=>⟨[(11,Yf k),(59,.int .i64 k),(58,.agg [.cy 1000040 [.box 0 0],.cy 1000041 [.box 0 0],.cy 1000042 [.box 0 0],.cy 1000043 [.box 0 0],.cy 1000044 [.box 0 0]]),(9,.cy 39 [.box 4 0]),(8,.int .i64 (A.len (A.app dt (A.lit [[.str key]])))),(5,.str key),(3,.box 5 0),(2,.box 4 0)],[.box [.lst 51 de,.lst 56 dc,.mp 1,.row 9 3],.map .str 4 dmk,.dead,.row 9 dtk true,.box [.box 0 0],.box [.int .i64 a0,.str a1,.str a2,.lst 29 a3,.lst 42 a4,.int .i64 b0,.str b1,.str b2,.lst 29 b3,.lst 42 b4]]⟩) (λ_=>True) ?_ ?_
  ·have hk5:k=0\/k=1\/k=2\/k=3\/k=4:=yO;rcases hk5 with rfl|rfl|rfl|rfl|rfl
   all_goals (
    cbv;repeat' (first|apply bw|exact zf|(intro h2;cbv)|apply bG)
    all_goals first
     |(exact⟨(),trivial,[0,1,2,3,4,5],rfl,yc⟩
       done)
     |skip)
   all_goals trace_state
  intro _ _;cbv;refine X.cut (λ(z:D×Bool)=>⟨[(13,.bool z.2),(12,.row 67 6),(59,.int .i64 k),(58,.agg [.cy 1000040 [.box 0 0],.cy 1000041 [.box 0 0],.cy 1000042 [.box 0 0],.cy 1000043 [.box 0 0],.cy 1000044 [.box 0 0]]),(9,.cy 39 [.box 4 0]),(8,.int .i64 (A.len (A.app dt (A.lit [[.str key]])))),(5,.str key),(3,.box 5 0),(2,.box 4 0)],[.box [.lst 51 de,.lst 56 dc,.mp 1,.row 9 3],.map .str 4 dmk,.dead,.row 9 dtk true,.box [.box 0 0],.box [.int .i64 a0,.str a1,.str a2,.lst 29 a3,.lst 42 a4,.int .i64 b0,.str b1,.str b2,.lst 29 b3,.lst 42 b4],.row 67 z.1 true]⟩) (λz=>n1 (kU env ctx s t (k+1)) z.1 z.2) ?_ ?_
  ·have hk5:k=0\/k=1\/k=2\/k=3\/k=4:=yO
   have hfl:s.fl.length<=1048576/\t.fl.length<=1048576/\s.ar.length<=1048576:=by
    have h2:=km s;have h3:s.dP.length=s.ar.length+s.fl.length:=by simp[Ty.dP]
    have h4:=km t;have h5:t.dP.length=t.ar.length+t.fl.length:=by simp[Ty.dP]
    omega
   rcases hk5 with rfl|rfl|rfl|rfl|rfl
   ·cbv;refine X.call (ZR hs ht λr b hA=>?_);cbv;exact⟨(r,b),hA,[0,1,2,7,4,5,6],rfl,yc⟩
   ·cbv;refine X.call (ZQ hcs.le hct.le (hcs.uy s (ji s)) (hct.uy t (ji t)) ⟨hfl.1,hfl.2.1⟩ hs ht λr b hA=>?_);cbv;exact⟨(r,b),hA,[0,1,2,7,4,5,6],rfl,yc⟩
   ·cbv;refine X.call (XJ.2 he hok hcs.le hct.le hfl.2.2 hs ht λr b hA=>?_);cbv;exact⟨(r,b),hA,[0,1,2,7,4,5,6],rfl,yc⟩
   ·cbv;refine X.call (ZP he hok hc hcl hcs.le hs ht λr b hA=>?_);cbv;exact⟨(r,b),hA,[0,1,2,7,4,5,6],rfl,yc⟩
   ·cbv;refine X.call (ZO he hok hct.le hs ht λr b hA=>?_);cbv;exact⟨(r,b),hA,[0,1,2,7,4,5,6],rfl,yc⟩
  rintro⟨rl,kb⟩ ⟨hAb,hAl⟩;simp only at hAb hAl;cases hpr:kU env ctx s t (k+1)with
  |none=>
   rw[hpr]at hAb;obtain rfl:kb=false:=hAb;rw[wS hpr]at hrs;cbv;repeat' (first|apply bw|exact zf|(intro h2;first|exact absurd (((rfl:(false:Bool)=false)).symm.trans h2) yD|cbv)|apply bG|(refine X.call (V9 hdmk hdtk yO hmark yO yO λdm' dt' e1 e2=>?_);cbv))
   all_goals try exact hin
   refine⟨(k+1,bl,dm',dt'),⟨yP,hrs,hI,hnb,⟨mk,hMK,?_⟩,?_⟩,yP,[0,1,2,7,4,5],rfl,?_⟩
   ·rw[e1,fD yO];rfl
   ·rw[e2,cG yO]
   exact yc
  |some l=>
   rw[hpr]at hAb;obtain rfl:kb=true:=hAb;have hrl:=hAl l hpr;have hlC:=hcl' s hsC t htC (k+1) l hpr;obtain⟨q,hq1,hq2,hq3⟩:=wR hpr hrs;have hIp:gx C (g++[(s,t)],bl):=hI.push hsC htC hmg hnb
   have hll:l.length<=100000:=by
    have h1:=D2 hpr;have h2:=km s;have h3:s.dP.length=s.ar.length+s.fl.length:=by simp[Ty.dP]
    have h4:=km t;have h5:t.dP.length=t.ar.length+t.fl.length:=by simp[Ty.dP]
    omega
   have hqd:=ym (λj g b r x1 x2 x3 x4=>vA hcl' n j g b r x1 x2 x3 (by rw[<- hdec];exact x4)) l _ _ q hlC hIp hq1;obtain⟨⟨x,hx⟩,_,hIq⟩:=hqd;obtain⟨hqg,hqb⟩:=hIq.Ro hC;rw[hdec]at hq1;clear hAl hrs;cbv;repeat' (first|apply bw|exact zf|(intro h2;first|exact absurd (((rfl:(true:Bool)=true)).symm.trans h2) yD|cbv)|apply bG)
   refine X.call (ZN hC ih hrl yO hlC hq1 hIp hMK hdmk hdtk λr m' dm' dt' hr hMK' hdm' hdt'=>?_);have hn1:A.not false=true:=by rw[hneg];rfl
   have hn2:A.not true=false:=by rw[hneg];rfl
   cases hqv:q.1 with
   |true=>
    have hre:=hq2 hqv;obtain rfl:r=false:=by rw[hr,hqv];rfl
    have Q:=h true m' dm' dt' (by rw[hre,hqv]) (by rw[hre];exact hMK') hdm' (by rw[hre];exact hdt');cbv;repeat' (first|apply bw|exact zf|(intro h2;first|exact yB hn1 h2|cbv)|apply bG)
    all_goals exact Q
   |false=>
    have hre:=hq3 hqv;obtain rfl:r=true:=by rw[hr,hqv];rfl
    have hql:(q.2.1.map jw).length=g.length+1+x.length:=by rw[hx];simp;omega
    have hxl:q.2.1.length=g.length+1+x.length:=by rw[hx];simp;omega
    cbv;repeat' (first|apply bw|exact zf|(intro h2;first|exact yB hn2 h2|cbv)|apply bG|(refine X.call (V9 hdm' hdt' yO hmark yO yO λdm2 dt2 e1 e2=>?_);cbv))
    all_goals try exact hin
    all_goals (
     have hMq:MK m' (g++[(s,t)]++x) q.2.2:=by rw[<- hx];exact hMK'
     have hdrop:(q.2.1.map jw).drop (g.length+1)=x.map jw:=by rw[hx,cg];exact List.drop_left' yS
     have htake:(q.2.1.map jw).take (g.length+1)=(g++[(s,t)]).map jw:=by rw[hx,cg];exact List.take_left' yS
     have hIg:gx C (g++[(s,t)]++x,q.2.2):=by rw[<- hx];exact hIq
     refine⟨(k+1,q.2.2,dm2,dt2),⟨yP,hre,?_,?_,⟨_,hMq.del hIg.g hIg.d,by rw[e1,hdrop]⟩,by rw[e2,htake]⟩,yP,?_⟩
     ·have:gx C (g++([(s,t)]++x),q.2.2):=by rw[<- bN];exact hIg
      exact this.back
     ·exact hIg.d _ yS
     first
      |(exact⟨[0,1,2,8,4,5],rfl,yc⟩
        done)
      |trace_state)
 ·have hk5:k=5:=by have h1:A.lt (br k) 5=false:=h1;rw[hltt]at h1;have:=of_decide_eq_false h1;simp only[bz]at this;omega
  rw[hk5,s4,gk]at hrs;cases hrs;clear h1;cbv;repeat' (first|apply bw|exact zf|(intro h2;cbv)|apply bG|(refine X.call (V9 hdmk hdtk yO hmark1 yO yO λdm2 dt2 e1 e2=>?_);cbv))
  all_goals try exact hin1
  all_goals (
   have hdrop:((g++[(s,t)]).map jw).drop g.length=[(s,t)].map jw:=by rw[cg];exact List.drop_left' yS
   have htake:((g++[(s,t)]).map jw).take g.length=g.map jw:=by rw[cg];exact List.take_left' yS
   have hIp:gx C (g++[(s,t)],bl):=hI.push hsC htC hmg hnb;have Q:=h false _ _ dt2 rfl ((hMK.del hIp.g hIp.d).bad hmg) (hset2 dm2 _ (by rw[e1,hdrop])) (by rw[e2,htake]);exact Q)
section
variable {env:List IF}{f a a3 a4 b d:D}{ctx:List Pm}{C:List Ty}{s t:Ty}{e c:Int}{a1 a2 b1 b2:S}{K:PV->List Ob->Prop}{g r2:Bool}
def YA:eE:={tt:=tt,n:=20,own:=[13],live:=[24]}
def F7(v:f=bH dC env)(k:dW env)(hc:a=bH ew ctx)(o:ctx.length<=4294967295)(u:BV env ctx C)(l:s∈C)(p:t∈C){i:Bool}(j:uc env ctx C s t i)
 (hs:cD s e a1 a2 a3 a4) (w:cD t c b1 b2 b d) (h:∀r,r=i->K (.bool r) []):
 FT 7 [] [.lst 51 f,.lst 56 a,df e a1 a2 a3 a4,df c b1 b2 b d] K:=by
 obtain⟨n,m,y⟩:=j;refine en YA Tryz.func7 λA C L X=>?_;cbv;refine X.call (Z1 v k hc o u n l p y gx.nil MK.nil rfl rfl hs w λr m' x q hr _ _ _=>?_);cbv;exact h _ hr
def F9(o:f=bH dC env)(i:dW env)(hc:a=bH ew ctx)(k:ctx.length<=4294967295)(n:BV env ctx C)(j:s∈C)(l:t∈C)(q:uc env ctx C s t g)(u:uc env ctx C t s r2)
 (hs:cD s e a1 a2 a3 a4) (p:cD t c b1 b2 b d) (h:∀r,r=(g&&r2)->K (.bool r) []):
 FT 9 [] [.lst 51 f,.lst 56 a,df e a1 a2 a3 a4,df c b1 b2 b d] K:=by
 refine en g9 Tryz.func9 λA C L X=>?_;cbv;refine X.call (F7 o i hc k n j l q hs p λr hr=>?_);cases r with
 |true=>
  cbv;repeat' (first|apply bw|exact zf|(intro J;first|exact absurd (((rfl:(true:Bool)=true)).symm.trans J) yD|cbv)|apply bG|(refine X.call (F7 o i hc k n l j u p hs λv m=>?_);cbv))
  all_goals exact h _ (by rw[<- hr,<-m];simp)
 |false=>
  cbv;repeat' (first|apply bw|exact zf|(intro J;first|exact absurd (((rfl:(false:Bool)=false)).symm.trans J) yD|cbv)|apply bG)
  all_goals exact h _ (by rw[<- hr];simp)
def Z4(o:f=bH dC env)(i:dW env)(hc:a=bH ew ctx)(k:ctx.length<=4294967295)(n:BV env ctx C)(j:s∈C)(l:t∈C)(q:uc env ctx C s t g)(u:uc env ctx C t s r2)
 (hs:cD s e a1 a2 a3 a4) (p:cD t c b1 b2 b d) (h:∀r,r=(g&&r2)->K (.bool r) []):
 FT 10 [] [.lst 51 f,.lst 56 a,df e a1 a2 a3 a4,df c b1 b2 b d] K:=by
 refine en g10 Tryz.func10 λA C L X=>?_;cbv;refine X.call (F8 o i hc k n j l q hs p λr hr=>?_);cases r with
 |true=>
  cbv;repeat' (first|apply bw|exact zf|(intro J;first|exact absurd (((rfl:(true:Bool)=true)).symm.trans J) yD|cbv)|apply bG|(refine X.call (F8 o i hc k n l j u p hs λv m=>?_);cbv))
  all_goals exact h _ (by rw[<- hr,<-m];simp)
 |false=>
  cbv;repeat' (first|apply bw|exact zf|(intro J;first|exact absurd (((rfl:(false:Bool)=false)).symm.trans J) yD|cbv)|apply bG)
  all_goals exact h _ (by rw[<- hr];simp)
end
end Go.VC.cK
namespace Go.VC
def mo(env:List IF)(ts:List Ty):List Ty:=ts++env.flatMap eP
end Go.VC
namespace Go.VC.cK
open Go Go.VC Go.Proofs
def VN:eE:={tt:=tt,n:=92,gK:=g12.gK,own:=[14,30,44],live:=[0]}
open Classical in
def X4{env:List IF}{de:D}(he:de=bH dC env)(aq:dW env)(S:∀i∈env,i.fit)(aS:∀i∈env,(eP i).length<=4294967290){ts:List Ty}{O:D}(az:O=bH cE ts)(aG:∀t∈mo env ts,Wt t)(aO:(mo env ts).length<=4000000000){K:PV->List Ob->Prop}
 (h:∀b,(b=true->∃C,Il env (mo env ts) C)->K (.bool b) []):
 FT 12 [] [.lst 51 de,.lst 29 O] K:=by
 obtain⟨L,hL⟩:∃L,L=mo env ts:=⟨_,rfl⟩;rw[<- hL]at aG aO h;refine FC.enter (G:=VN) eX mixed ⟨Tryz.func12,by rfl,rfl⟩ rfl rfl rfl ?_;intro A C X1 X;have Y:=fz X.a;have Z:=mI X.a;have Q:=Dh X.a;have bi:∀a b:Int,A.le a b=decide (a<=b):=by rw[X.a];exactλ_ _=>rfl
 have bl:ts.length<=L.length:=by rw[hL];unfold mo;simp
 have aR:A.fU (A.add (A.len (A.lit [])) (A.len O)) 4294967296:=by rw[X.a,az];simp only[SD];omega
 have e0:A.app (A.lit []) O=bH cE ts:=by rw[X.a,az];exact cx (l:=[])
 obtain⟨I,ai,v⟩:=lenOf he;refine p1 ?_;refine lP X (λy=>y.1<=I/\y.2=bH cE (ts++(env.take y.1).flatMap eP)) (λy=>I-y.1) (0,A.app (A.lit []) O) ⟨bD _,by simp only[e0];simp⟩ [0] (λ(y:Nat×D)=>⟨[(6,.int .i64 y.1),(5,.row 29 0),(0,.lst 51 de)],[.row 29 y.2 true]⟩) ?_;rintro⟨i,dw⟩ ⟨hi,z⟩;simp only at hi z;cbv;constructor<;>intro h1
 ·have h5:i<env.length:=lY X.a v h1;have aX:=iX X.a he h5;have a6:A.inr .i64 (A.add (br i) 1):=by rw[X.a];exact ek h5 (by have:=aq.1;omega)
  have k1:=mA X.a he h5
  have R:(ts++(env.take (i+1)).flatMap eP).length<=L.length:=by
   rw[hL];unfold mo;rw[bE,bE]
   have:(env.take (i+1)).flatMap eP=(env.flatMap eP).take ((env.take (i+1)).flatMap eP).length:=by
    conv=>rhs;rw[<- dG (i+1) env,cV]
    simp
   have J:=congrArg jt this;rw[cZ]at J;omega
  have e1:∀r,r=bH cE (eP env[i])->A.app dw r=bH cE (ts++(env.take (i+1)).flatMap eP):=λr hr=>by rw[X.a,z,hr,bX h5,cV,<-bN];simp only[eQ,qM,cA];exact cx
  have a7:∀r,r=bH cE (eP env[i])->A.fU (A.add (A.len dw) (A.len r)) 4294967296:=λr hr=>by rw[bX h5,cV]at R;simp only[eQ,qM,cA,bE]at R;rw[X.a,z,hr];simp only[SD,bE];omega
  clear h1;cbv;repeat' (first|apply bw|exact zf|(intro J;cbv)|apply bG|(refine X.call (Wn k1 (S _ (bx h5)).ok (aS _ (bx h5)) λr hr=>?_);cbv))
  all_goals try first|exact aX|exact a6|exact a7 _ yA
  exact⟨(i+1,_),⟨yP,e1 _ hr⟩,yP,[0],rfl,yc⟩
 have h5:i=I:=gY X.a v h1;have z:dw=bH cE L:=by rw[z,h5,ai,bF,hL];rfl
 clear h1 h5 e0 aR;cbv;refine lP X (λy=>Tm env L y.1.1 y.1.2/\y.2.1=bH cE y.1.2/\y.2.2=bH cE y.1.1) (λy=>P8 L y.1.1 y.1.2) (([],L),dw,A.lit []) ⟨Tm.start aG,z,yX⟩ [0,1] (λ(y:(List Ty×List Ty)×D×D)=>⟨[(7,.row 29 1),(5,.row 29 0),(0,.lst 51 de)],[.row 29 y.2.1 true,.row 29 y.2.2 true]⟩) ?_;clear z hi;rintro⟨⟨w,W⟩,c,H⟩ ⟨V,hW,hK⟩;simp only at V hW hK;have a4:=V.wl;have bj:=V.len;obtain⟨ac,ag,d⟩:=lenOf hW;obtain⟨B,M,g⟩:=lenOf hK;cbv;constructor<;>intro h1
 ·have P:0<W.length:=lY X.a d h1;obtain⟨p,t,rfl⟩:∃p t,W=p++[t]:=⟨W.dropLast,W.getLast (by intro e;rw[e]at P;simp at P),(nR _).symm⟩;have U:=V.wt t yS;have E:ac=p.length+1:=by rw[ag];simp
  have s:A.sub (A.len c) 1=br p.length:=by
   have:A.len c=br (p.length+1):=by rw[X.a,d,E]
   rw[this,X.a];show br (p.length+1)-1=_;simp only[bz];omega
  have bc:A.inr .i64 (A.sub (A.len c) 1):=by rw[s,X.a];simp only[SD];omega
  have a9:A.idx (A.sub (A.len c) 1) (A.len c):=by rw[s,X.a,hW];exact cP yS
  have ba:A.idx 0 (A.len c):=by rw[X.a,hW];exact cP (i:=0) P
  have bd:A.fU (A.sub (A.len c) 1) (A.len c):=by rw[s,X.a,d];simp only[SD];omega
  have x:A.part c 0 (A.sub (A.len c) 1)=bH cE p:=by rw[s,X.a,hW];have:=mi (f:=cE) (l:=p++[t]) (a:=0) (b:=p.length);simpa using this
  have kt:cD t (A.asInt (A.cell c (A.sub (A.len c) 1) 0)) (A.bL (A.cell c (A.sub (A.len c) 1) 1)) (A.bL (A.cell c (A.sub (A.len c) 1) 2)) (A.cell c (A.sub (A.len c) 1) 3) (A.cell c (A.sub (A.len c) 1) 4):=by rw[s];have:=gI X.a hW (i:=p.length) yS;simpa using this
  clear h1;have aF:∀u∈w,Ty.le 4294967295 u:=V.UL;refine p1 ?_;refine lP X (λy=>y.1<=B/\y.2=decide (t∈w.take y.1)) (λy=>B-y.1) (0,false) ⟨bD _,yS⟩ [0,1,2] (λ(y:Nat×Bool)=>⟨[(10,.int .i64 y.1),(9,.bool y.2),(8,.box 2 0),(7,.row 29 1),(5,.row 29 0),(0,.lst 51 de)],[.row 29 (A.part c 0 (A.sub (A.len c) 1)) true,.row 29 H true,.box [.int .i64 (A.asInt (A.cell c (A.sub (A.len c) 1) 0)),.str (A.bL (A.cell c (A.sub (A.len c) 1) 1)),.str (A.bL (A.cell c (A.sub (A.len c) 1) 2)),.lst 29 (A.cell c (A.sub (A.len c) 1) 3),.lst 42 (A.cell c (A.sub (A.len c) 1) 4)]]⟩) ?_;rintro⟨i,sn⟩ ⟨hi,F⟩;simp only at hi F;have ar:sn=true->Tm env L w p:=λe=>V.seen (by rw[F]at e;exact ue (of_decide_eq_true e))
  have aE:¬A.lt (br i) (A.len H)=true->sn=false->t∉w:=λe1 e2=>by
   have h5:i=B:=by
    by_cases h6:i<B
    ·exact absurd (by rw[Q,X.a,g];simpa using h6) e1
    ·omega
   rw[h5,M,bF]at F;rw[e2]at F;exact of_decide_eq_false F.symm
  have aj:A.lt (br i) (A.len H)=true->i<w.length:=λe=>by rw[Q,X.a,g]at e;have:=of_decide_eq_true e;simp only[bz]at this;omega
  have E:A.not false=true:=by rw[Y];rfl
  have ab:A.not true=false:=by rw[Y];rfl
  cases sn with
  |true=>
   have a2:=ar rfl;cbv;repeat' (first|apply bw|exact zf|(intro J;first|exact yB E J|exact yB ab J|exact absurd (((rfl:(true:Bool)=true)).symm.trans J) yD|cbv)|apply bG)
   all_goals (
    exact⟨((w,p),A.part c 0 (A.sub (A.len c) 1),H),⟨a2,x,hK⟩,Kf,[0,1],rfl,yc⟩)
  |false=>
   have aD:A.lt (br i) (A.len H)=true->A.idx (br i) (A.len H):=λe=>by rw[X.a,hK];exact cP (aj e)
   have ay:A.lt (br i) (A.len H)=true->A.inr .i64 (A.add (br i) 1):=λe=>by have:=aj e;rw[X.a];exact ek (n:=w.length) this yO
   by_cases j:A.lt (br i) (A.len H)=true
   ·have h5:=aj j;have k1:=gI X.a hK h5;have l1:=aF _ (bx h5);have e9:=aD j;have gD:=ay j;cbv;repeat' (first|apply bw|exact zf|(intro J;first|exact yB E J|exact yB ab J|exact yB j J|exact absurd (((rfl:(false:Bool)=false)).symm.trans J) yD|cbv)|apply bG|(refine X.call (TW _ l1 k1 kt λb hb=>?_);cbv))
    all_goals try first|exact e9|exact gD
    refine⟨(i+1,b),⟨yP,?_⟩,yP,[0,1,2],rfl,?_⟩
    ·rw[hb,bX h5,cm,decide_eq_true_iff,ir];have aW:t∉w.take i:=of_decide_eq_false F.symm;constructor
     ·intro e;exact dV _ (by simp[e])
     ·intro e;rcases bJ.1 e with e|e
      ·exact absurd e aW
      ·simp at e;exact e.symm
    exact yc
   ·have bf:=aE j rfl;have ad:A.lt (br i) (A.len H)=false:=yU j;have ap:A.len H=br w.length:=by rw[X.a,g,M]
    have m:A.eq (A.len H) 120=decide (w.length=120):=by rw[Z,ap,cm];simp;omega
    have aB:∀r:Int,A.lt 200 r=decide (200<r):=λr=>Q _ _;have ax:=h false (λe=>yC e);have bb:p.length<=4100000000:=by simp only[bE,bS,cH]at a4;omega
    have ef:[D.int (A.asInt (A.cell c (A.sub (A.len c) 1) 0)),.str (A.bL (A.cell c (A.sub (A.len c) 1) 1)),.str (A.bL (A.cell c (A.sub (A.len c) 1) 2)),A.cell c (A.sub (A.len c) 1) 3,A.cell c (A.sub (A.len c) 1) 4]=cE t:=by obtain⟨f0,f1,f2,f3,f4⟩:=kt;rw[f0,f1,f2,f3,f4,dI]
    have eK:A.app H (A.lit [[D.int (A.asInt (A.cell c (A.sub (A.len c) 1) 0)),.str (A.bL (A.cell c (A.sub (A.len c) 1) 1)),.str (A.bL (A.cell c (A.sub (A.len c) 1) 2)),A.cell c (A.sub (A.len c) 1) 3,A.cell c (A.sub (A.len c) 1) 4]])=bH cE (w++[t]):=by rw[ef,X.a,hK];exact cx (k:=[t])
    have bK:A.fU (A.add (A.len H) (A.len (A.lit [[D.int (A.asInt (A.cell c (A.sub (A.len c) 1) 0)),.str (A.bL (A.cell c (A.sub (A.len c) 1) 1)),.str (A.bL (A.cell c (A.sub (A.len c) 1) 2)),A.cell c (A.sub (A.len c) 1) 3,A.cell c (A.sub (A.len c) 1) 4]]))) 4294967296:=by rw[ap,X.a];simp only[SD];omega
    by_cases N:w.length=120
    ·have m:=m.trans (decide_eq_true N);cbv;repeat' (first|apply bw|exact zf|(intro J;first|exact yB E J|exact yB ab J|exact yB ad J|exact yB m J|exact absurd (((rfl:(false:Bool)=false)).symm.trans J) yD|cbv)|apply bG)
     all_goals exact ax
    ·have m:=m.trans (decide_eq_false N);have bk:=km t;have bh:=U.sz;have o:w.length<120:=yO;have aw:∀r:Int,r=(t.size:Int)->A.lt 200 r=false->t.size<=200:=λr e1 e2=>by rw[aB,e1]at e2;have:=of_decide_eq_false e2;omega
     have eW:∀q,q=bH cE t.dP->A.app (A.part c 0 (A.sub (A.len c) 1)) q=bH cE (p++t.dP):=λq hq=>by rw[x,X.a,hq];exact cx
     have bW:∀q,q=bH cE t.dP->t.size<=200->A.fU (A.add (A.len (A.part c 0 (A.sub (A.len c) 1))) (A.len q)) 4294967296:=λq hq hz=>by rw[x,X.a,hq];simp only[SD];omega
     have a3:∀q aA ao,q=bH cE t.dP->t.size<=200->A.fU (A.add (A.len (A.app (A.part c 0 (A.sub (A.len c) 1)) q)) (A.len (A.lit [aA,ao]))) 4294967296:=λq r1 r2 hq hz=>by rw[eW q hq,X.a];simp only[SD,bE];omega
     cbv;repeat' (first|apply bw|exact zf|(intro J;first|exact yB E J|exact yB ab J|exact yB ad J|exact yB m J|exact absurd (((rfl:(false:Bool)=false)).symm.trans J) yD|cbv)|apply bG|(refine X.call (Ux t U.le U.sz kt λr hr=>?_);cbv)|(refine X.call (PF U.le yO kt λq hq=>?_);cbv)|(refine X.call (Wi he aq U.le kt λu0 u1 u2 u3 u4 g0 g1 g2 g3 g4 r2 aP aZ an=>?_);cbv))
     all_goals try first|exact ax|exact bK
     all_goals (
      have hz:t.size<=200:=aw r hr yA
      first
       |exact bW _ yA hz
       |exact a3 _ _ _ yA hz
       |(have zr:A.eq r2 0=true:=yA
         have zr:(dp env t).2.2=0:=by rw[Z,an]at zr;simpa using zr
         have T:=V.new S o hz;have eS:oV env t=t.dP++[(dp env t).1,(dp env t).2.1]:=by unfold oV;rw[if_pos zr]
         refine⟨((w++[t],p++oV env t),A.app (A.app (A.part c 0 (A.sub (A.len c) 1)) q) (A.lit [[.int u0,.str u1,.str u2,u3,u4],[.int g0,.str g1,.str g2,g3,g4]]),_),⟨T,?_,eK⟩,Ht T o,[0,1],rfl,?_⟩
         ·show A.app (A.app (A.part c 0 (A.sub (A.len c) 1)) q) (A.lit [[.int u0,.str u1,.str u2,u3,u4],[.int g0,.str g1,.str g2,g3,g4]])=bH cE (p++oV env t);have f1:[D.int u0,.str u1,.str u2,u3,u4]=cE (dp env t).1:=by obtain⟨f0,f1,f2,f3,f4⟩:=aP;rw[f0,f1,f2,f3,f4,dI]
          have f2:[D.int g0,.str g1,.str g2,g3,g4]=cE (dp env t).2.1:=by obtain⟨f0,f1,f2,f3,f4⟩:=aZ;rw[f0,f1,f2,f3,f4,dI]
          rw[eW q hq,f1,f2,X.a,eS,<-bN];exact cx (k:=[(dp env t).1,(dp env t).2.1])
         exact yc)
       |(have zr:A.eq r2 0=false:=yA
         have zr:¬(dp env t).2.2=0:=by rw[Z,an]at zr;simpa using zr
         have T:=V.new S o hz;have eS:oV env t=t.dP:=by unfold oV;rw[if_neg zr,cA]
         refine⟨((w++[t],p++oV env t),A.app (A.part c 0 (A.sub (A.len c) 1)) q,_),⟨T,?_,eK⟩,Ht T o,[0,1],rfl,?_⟩
         ·show A.app (A.part c 0 (A.sub (A.len c) 1)) q=bH cE (p++oV env t);rw[eW q hq,eS]
         exact yc)
       |trace_state)
 ·have aT:W=[]:=by
   have:ac=0:=by obtain rfl:=X.a;simp only[d,SD]at h1;omega
   exact cz yO
  subst aT;have q:=h true (λ_=>⟨w,V.fin⟩);cbv;exact q
end Go.VC.cK
namespace Go.VC
open Classical
open Go.VC.cK
section
variable {env:List IF}{C:List Ty}{i:IF}{x:TE}{ctx:List Pm}{s t:Ty}{p:S}{l:List TE}
noncomputable def H4(env:List IF)(ctx:List Pm)(s t:Ty):Bool:=if h:∃b,uc env ctx [] s t b then h.choose else false
def vh(d:BV env ctx C)(hs:s∈C)(c:t∈C):uc env ctx C s t (H4 env ctx s t):=by
 have a:∃b,uc env ctx [] s t b:=by obtain⟨r,hr,_⟩:=Ia d.closed (qw C []+1) (s,t) [] [] hs c gx.nil (Nat.lt_succ_self _);exact⟨r.1,_,r.2,hr⟩
 unfold H4;rw[dif_pos a];exact a.choose_spec
def qu(ctx:List Pm):List Pm:=ctx.map λp=>⟨p.name,0,p.bound⟩
def Fc(env:List IF)(ctx:List Pm)(t:Ty):jf env (qu ctx) t=jf env ctx t:=by
 unfold jf qu
 have:∀(l:List Pm),((l.map λp=>(⟨p.name,0,p.bound⟩:Pm)).find? λp=>p.name==t.n).map Pm.bound=(l.find? λp=>p.name==t.n).map Pm.bound:=by
  intro l;induction l with
  |nil=>rfl
  |cons p l a=>
   rw[bO,cB,cB];show (match p.name==t.n with|true=>_|false=>_:Option Pm).map Pm.bound=_;cases p.name==t.n with
   |true=>rfl
   |false=>exact a
 rw[this]
def IU(env:List IF)(ctx:List Pm):kU env (qu ctx)=kU env ctx:=by funext s t r;unfold kU wW;rw[Fc]
def uc.op{b:Bool}(h:uc env ctx C s t b):uc env (qu ctx) C s t b:=by unfold uc;rw[IU];exact h
def BV.op(h:BV env ctx C):BV env (qu ctx) C:=⟨h.len,h.ct,h.sz,h.dP,h.fU,λp a=>by obtain⟨q,b,rfl⟩:=bT.1 a;exact h.ctx q b⟩
noncomputable def qY(env:List IF)(p:S):List TE->Option (S×S×Int)
 |[]=>none
 |x::l=>if H4 env x.params x.lower x.upper=false then some (p,x.name,13)else qY env p l
noncomputable def qZ(env:List IF):List IF->Option (S×S×Int)
 |[]=>none
 |i::l=>match qY env i.path i.types with
  |some r=>some r
  |none=>qZ env l
noncomputable def pM(env:List IF):S×S×Int:=if(nL env).2≠0 then((nL env).1,[],(nL env).2)else(qZ env env).getD ([],[],0)
def wX:∀{k:Nat}{l:List Pm},lf jW k l=0->∀p∈l,p.bound=Ty.zero
 |_,[],_,p,a=>yE a
 |k,q::l,h,p,a=>by
  rw[lf]at h;split at h
  ·cases h
  ·split at h
   ·cases h
   ·rename_i b;rcases bP.1 a with rfl|a
    ·unfold jW at b;simp only[gh,not_or,Bool.not_eq_true]at b;exact ir.1 (yU b.2)
    ·exact wX h p a
def Il.Px(h:Il env (mo env []) C)(j:BU env)(d:∀i∈env,i.fit)(n:i∈env)(o:x∈i.types):∃e,BV env x.params e/\x.lower∈e/\x.upper∈e:=by
 obtain⟨a,b⟩:=Ct.ty j d n o;obtain⟨_,_,_,_,_,g⟩:=Cd ((j.ok i n).t x o)
 have q:∀p∈x.params,p.bound=Ty.zero:=by
  unfold ij at g;split at g
  ·cases g
  ·exact wX g
 have f:∀t∈fS x,t∈mo env []:=λt c=>by unfold mo;rw[ep];refine cN.2 ⟨i,n,?_⟩;unfold eP;exact eu _ (cN.2 ⟨x,o,c⟩)
 obtain⟨e,h1,J⟩:=h.Ut (ctx:=x.params) j d (k:=fS x) (λt c=>⟨f t c,by
  unfold fS at c;rcases bJ.1 c with c|c
  ·simp at c;rcases c with rfl|rfl
   ·exact a
   ·exact b
  ·obtain⟨p,m,rfl⟩:=bT.1 c;rw[q p m];exact Ct.zero⟩) (λp m=>by unfold fS;exact dV _ (bT.2 ⟨p,m,rfl⟩))
 exact⟨e,h1,J _ (by simp[fS]),J _ (by simp[fS])⟩
def Ou(b:BU env)(c:i∈env)(d:x∈i.types):x.params.length<=8:=by
 obtain⟨_,_,_,_,_,a⟩:=Cd ((b.ok i c).t x d);unfold ij at a;split at a
 ·cases a
 ·omega
def xV(h:(nL env).2≠0):pM env=((nL env).1,[],(nL env).2):=by unfold pM;rw[if_pos h]
def AK(h:(nL env).2=0):pM env=(qZ env env).getD ([],[],0):=by unfold pM;rw[if_neg (yU h)]
def uu(h:H4 env x.params x.lower x.upper=true):qY env p (x::l)=qY env p l:=by rw[qY,if_neg (by rw[h];decide)]
def Kp(h:H4 env x.params x.lower x.upper=false):qY env p (x::l)=some (p,x.name,13):=by rw[qY,if_pos h]
def Kq{l:List IF}{r:S×S×Int}(h:qY env i.path i.types=some r):qZ env (i::l)=some r:=by rw[qZ,h]
def Hz{l:List IF}(h:qY env i.path i.types=none):qZ env (i::l)=qZ env l:=by rw[qZ,h]
end
end Go.VC
namespace Go.VC
def Lx{i:Nat}(a:i<8):Std.sO [35] (Std.Ar (Std.lit [[.int (Std.add 48 (br i))]]))=Ai i:=by
 have e:Ai i=[35,mW (48+i)]:=by unfold Ai;rw[Go.Lib.decDigits,dif_pos yO]
 rw[e]
 match i,a with
 |0,_=>rfl
 |1,_=>rfl
 |2,_=>rfl
 |3,_=>rfl
 |4,_=>rfl
 |5,_=>rfl
 |6,_=>rfl
 |7,_=>rfl
noncomputable def lG(b:Bool)(p:Pm):Bool:=if b then jW p else nr p
def It(b:Bool)(p:Pm):lG b p=(decide (p.var<0)||decide (2<p.var)||(!b&&p.var != 0)||(b&& !same p.bound Ty.zero)):=by
 cases b with
 |true=>simp[lG,jW]
 |false=>
  simp only[lG,nr,oR,fB,fH,mX];rw[if_neg yD];by_cases h:p.var=0
  ·simp[h]
  ·have:(p.var != 0)=true:=yU h;rw[this];simp
end Go.VC
namespace Go.VC.cK
open Go Go.VC Go.Proofs
def WO{i:Nat}(d:i<8){K:PV->List Ob->Prop}(h:∀r,r=Ai i->K (.str r) []):FT 193 [] [.int .i64 (br i)] K:=by
 refine en (cf 9) Tryz.func193 λA C L X=>?_;have q:=h (A.sO [35] (A.Ar (A.lit [[.int (A.add 48 (br i))]]))) (by rw[X.a];exact Lx d);have b:A.inr .i64 (A.add 48 (br i)):=by rw[X.a,dK,dO];simp only[bz];omega
 have a:A.inr .u8 (A.add 48 (br i)):=by rw[X.a,dO];simp only[bz];show (0:Int)<=_/\_<=(255:Int);omega
 have c:A.inr .i64 (A.add (A.dz [35]) (A.dz (A.Ar (A.lit [[.int (A.add 48 (br i))]])))):=by rw[X.a];show (-9223372036854775808:Int)<=2/\(2:Int)<=9223372036854775807;omega
 cbv;repeat' (first|apply bw|exact zf|(intro J;cbv)|apply bG)
 all_goals first|exact b|exact a|exact c|exact q|skip
def Sc:(∀{l:List Pm}{d:D}(hf:∀ p∈l,Ty.le 4294967295 p.bound){K:PV->List Ob->Prop}(hd:d=bH ew l)(h:∀ r:Int,r=ij (lG true) l->K (.int .i64 r) []),FT 138 [] [.lst 56 d,.bl true] K)/\
 (∀{l:List Pm}{d:D}(hf:∀ p∈l,Ty.le 4294967295 p.bound){K:PV->List Ob->Prop}(hd:d=bH ew l)(h:∀ r:Int,r=ij (lG false) l->K (.int .i64 r) []),FT 138 [] [.lst 56 d,.bl false] K):=by
 refine⟨?_,?_⟩;have v:=trivial
 rotate_left
 have y:=trivial
 rotate_left
 all_goals (
  intro l d hf K hd h;refine en VL Tryz.func138 λA C L X=>?_;have Y:=fz X.a;have Z:=mI X.a;have da:=Dh X.a;have k:=Dg X.a;have l1:A.len d=br l.length:=gr X.a hd;obtain⟨c,j,a⟩:=lenOf hd;refine p2 (λJ=>?_) (λJ=>?_)
  ·have J:A.lt 8 (A.len d)=true:=J;rw[l1,da]at J;refine h _ ?_;have:8<l.length:=by have:=of_decide_eq_true J;simp only[bz]at this;omega
   rw[ij,if_pos this]
  have n:¬8<l.length:=by have J:A.lt 8 (A.len d)=false:=J;rw[l1,da]at J;have:=of_decide_eq_false J;simp only[bz]at this;omega
  rw[ij,if_neg n]at h;clear J
  first
   |(have w:=v
     refine X.loop (λ(i:Nat)=>⟨[(5,.int .i64 i),(0,.lst 56 d),(1,.bl true)],[]⟩) (λi=>i<=c/\lf (lG true) 0 l=lf (lG true) i (l.drop i)) (λi=>c-i) 0 ⟨bD _,rfl⟩ ?_ ?_)
   |(refine X.loop (λ(i:Nat)=>⟨[(5,.int .i64 i),(0,.lst 56 d),(1,.bl false)],[]⟩) (λi=>i<=c/\lf (lG false) 0 l=lf (lG false) i (l.drop i)) (λi=>c-i) 0 ⟨bD _,rfl⟩ ?_ ?_)
  ·exact yc
  rintro i ⟨x,f⟩;cbv;constructor<;>intro h1
  ·have h5:i<l.length:=lY X.a a h1;have t:=kB X.a hd h5;obtain⟨p0,p1,p2⟩:=id t;have o:=iX X.a hd h5;have m:=jX X.a h5;have g:=hf _ (bx h5);rw[bM h5,lf,It]at f;obtain⟨p,s⟩:∃p,p=l[i]:=⟨_,rfl⟩;rw[<- s]at p0 p1 p2 f g;have a1:A.lt (A.asInt (A.cell d (br i) 1)) 0=decide (p.var<0):=by rw[da,p1]
   have a2:A.lt 2 (A.asInt (A.cell d (br i) 1))=decide (2<p.var):=by rw[da,p1]
   have a3:A.not (A.eq (A.asInt (A.cell d (br i) 1)) 0)=(p.var != 0):=by rw[Y,Z,p1];rfl
   clear h1 s;cbv;repeat' (first|apply bw|exact zf|(intro J;cbv)|apply bG|(refine X.call (WO (i:=i) yO λr hr=>?_);cbv)|(refine X.call (TW _ g p2 (u:=Ty.zero) ⟨rfl,rfl,rfl,rfl,rfl⟩ λb hb=>?_);cbv))
   all_goals try first|exact o|exact m
   all_goals (
    have e1:A.not (A.seq (A.bL (A.cell d (br i) 0)) r)= !(p.name==Ai i):=by rw[Y,k,p0,hr]
    first
     |(have g1:(!(p.name==Ai i))=true:=e1.symm.trans (show A.not (A.seq (A.bL (A.cell d (br i) 0)) r)=true by assumption)
       refine h _ ?_;rw[f,if_pos (by intro e;rw[e]at g1;simp at g1)])
     |(have g1:(!(p.name==Ai i))=false:=e1.symm.trans (show A.not (A.seq (A.bL (A.cell d (br i) 0)) r)=false by assumption)
       refine h _ ?_;rw[f,if_neg (yU g1),if_pos (by clear f h e1 g1;simp only[dq,a1,a2,a3,Y]at *;simp_all;done)])
     |(have g1:(!(p.name==Ai i))=false:=e1.symm.trans (show A.not (A.seq (A.bL (A.cell d (br i) 0)) r)=false by assumption)
       refine⟨i+1,⟨yO,?_⟩,yO,?_⟩
       ·rw[f,if_neg (yU g1),if_neg (by clear f h e1 g1;simp only[dq,a1,a2,a3,Y]at *;simp_all;done)]
       exact yc)
     |skip)
  ·have h5:i=c:=gY X.a a h1;rw[h5,j,bZ]at f;have q:=h 0 (by rw[f];rfl);cbv;exact q)
def SU:eE:={tt:=tt,n:=45,gK:=VG.gK,own:=[33]}
def SS:eE:={tt:=tt,n:=45,own:=[33],n0:=1}
def Sb:(∀{l:List S}{s:S}{d:D}{K:PV->List Ob->Prop}(hd:d=bH encS l)(hl:l.length<=4294967290)(h:∀ r,r=bH encS (lB s l)->K (.row 9 1) [.dead,.row 9 r true]),FT 145 [.row 9 d true] [.row 9 0,.str s] K)/\
 (∀{l:List S}{s:S}{d:D}{K:PV->List Ob->Prop}(hd:d=bH encS l)(hl:l.length<=4294967290)(h:∀ r,r=bH encS (lB s l)->K (.lst 9 r) []),FT 145 [] [.lst 9 d,.str s] K):=by
 refine⟨?_,?_⟩;have m:=trivial
 rotate_left
 have y:=trivial
 rotate_left
 all_goals (
  intro l s d K hd hl h
  first
   |(have u:=m
     refine FC.sC (G:=SS) eX mixed ⟨Tryz.func145,by rfl,rfl⟩ rfl rfl rfl ?_)
   |(refine FC.enter (G:=SU) eX mixed ⟨Tryz.func145,by rfl,rfl⟩ rfl rfl rfl ?_)
  intro A C L X;obtain⟨c,v,a⟩:=lenOf hd;cbv
  first
   |(have u:=m
     refine X.loop (λ(i:Nat)=>⟨[(5,.int .i64 i),(0,.row 9 1),(1,.str s)],[.dead,.row 9 d true]⟩) (λi=>i<=c/\∀x∈l.take i,slt x s=true) (λi=>c-i) 0 ⟨bD _,yS⟩ ?_ ?_)
   |(refine X.loop (λ(i:Nat)=>⟨[(5,.int .i64 i),(0,.lst 9 d),(1,.str s)],[]⟩) (λi=>i<=c/\∀x∈l.take i,slt x s=true) (λi=>c-i) 0 ⟨bD _,yS⟩ ?_ ?_)
  ·exact yc
  rintro i ⟨z,ha⟩;cbv;have b1:A.fU (br i) (A.len d):=by rw[X.a,a];simp only[SD];omega
  have b2:A.fU 0 (br i):=by rw[X.a];simp only[SD];omega
  have t:A.fU (A.len d) (A.len d):=by rw[X.a,a];simp only[SD];omega
  have g:([.str s]:List D)=encS s:=rfl;have w:=Tn (i:=i) X.a hd hl;have o:=Tl (i:=i) (ys:=[.str s]) X.a hd hl;have p:=Tk X.a hd (by omega:i<=l.length) hl g;have e3:=Tt (i:=i) X.a hd g
  first
   |(have u:=m
     have q:lB s l=l.take i++s::l.drop i->K (.row 9 1) [.dead,.row 9 (A.app (A.app (A.app (A.lit []) (A.part d 0 (br i))) (A.lit [[.str s]])) (A.part d (br i) (A.len d))) true]:=λe=>h _ (by rw[e3,e]))
   |(have q:lB s l=l.take i++s::l.drop i->K (.lst 9 (A.app (A.app (A.app (A.lit []) (A.part d 0 (br i))) (A.lit [[.str s]])) (A.part d (br i) (A.len d)))) []:=λe=>h _ (by rw[e3,e]))
  constructor<;>intro h1
  ·have h5:i<l.length:=lY X.a a h1;have j:=jR X.a hd h5;have da:A.slt (A.bL (A.cell d (br i) 0)) s=slt l[i] s:=by rw[j,X.a];rfl
   have Z:A.seq (A.bL (A.cell d (br i) 0)) s=decide (l[i]=s):=by rw[j,X.a];show (l[i]==s)=_;rw[cm];simp
   have b:A.lt (br i) (A.len d)=true:=h1;have n:=iX X.a hd h5;have k:=jX X.a h5;cbv;repeat' (first|apply bw|exact zf|(intro J;cbv)|apply bG)
   any_goals exact n
   any_goals exact k
   any_goals exact b1
   any_goals exact b2
   any_goals exact t
   any_goals exact w
   any_goals exact o
   any_goals exact p
   ·refine⟨i+1,⟨yO,?_⟩,yO,?_⟩
    ·rename_i h3;have h4:slt l[i] s=true:=by rw[<- j];obtain rfl:=X.a;simpa only[SD]using h3
     rw[bX h5];intro x f;rcases bJ.1 f with f|f
     ·exact ha x f
     ·simp at f;subst f;exact h4
    exact yc
   all_goals first
    |(exfalso;have:=b.symm.trans J;exact absurd this yD)
    |(rename_i g1 g2
      have hs:l[i]? =some s:=by rw[bB h5];have:=Z.symm.trans J;simpa using this
      exact h d (by rw[xL yO ha (λ_=>da.symm.trans g1),if_pos hs];exact hd))
    |(rename_i g1 g2
      have hs:¬l[i]? =some s:=by rw[bB h5];have:=Z.symm.trans J;simpa using this
      exact q (by rw[xL yO ha (λ_=>da.symm.trans g1),if_neg hs]))
    |skip
   all_goals trace_state
  have h5:i=c:=gY X.a a h1;have hs:¬l[i]? =some s:=by rw[bY yO];simp
  have q:=q (by rw[xL yO ha (λ_=>yO),if_neg hs]);have b:A.lt (br i) (A.len d)=false:=h1;cbv;repeat' (first|apply bw|exact zf|(intro J;cbv)|apply bG)
  any_goals exact b1
  any_goals exact b2
  any_goals exact t
  any_goals exact w
  any_goals exact o
  any_goals exact p
  all_goals first
   |(exfalso;have:=b.symm.trans J;exact absurd this yD)
   |exact q
   |(exfalso;rename_i g1;have:=b.symm.trans g1;exact absurd this yD)
   |skip)
section
variable {K:PV->List Ob->Prop}
def BS{l:List S}{s c:S}{d:D}(hs:c=s)(hd:d=bH encS l)(hl:l.length<=4294967290)(h:∀r,r=bH encS (lB s l)->K (.lst 9 r) []):
 FT 145 [] [.lst 9 d,.str c] K:=by
 subst hs;exact Sb.2 hd hl h
def Zl{x:IF}{F:S}{c1 c2 B E:D}(H:jN x F c1 c2 B E)(M:x.types.length+x.values.length+x.aliases.length<=4294967290)
 (h:∀r,r=bH encS (n9 (nG x))->K (.lst 9 r) []):FT 98 [] [mf F c1 c2 B E] K:=by
 obtain⟨I,o,s,t,G⟩:=H;refine en (cf 54) Tryz.func98 λA C L X=>?_;obtain⟨g,m,b⟩:=lenOf o;obtain⟨e,n,c⟩:=lenOf s;obtain⟨f,p,a⟩:=lenOf t;cbv;refine lu X (λy=>y.1<=g/\y.2=bH encS (me [] (((x.types.take y.1).map (·.name))))) (λy=>g-y.1) (0,A.lit []) ⟨bD _,yX⟩ (λ(y:Nat×D)=>[(4,.int .i64 y.1),(3,.lst 9 y.2)]) ?_;rintro⟨i,r⟩ ⟨k,hr⟩;simp only at k hr;cbv;constructor<;>intro h1
 ·have h5:i<x.types.length:=lY X.a b h1;have u:=(Nl X.a o h5).1;have z:=iX X.a o h5;have w:=jX X.a h5;have hl:=mc (l:=(x.types.take i).map (·.name));simp only[bE,bQ,cZ]at hl;refine p1 ?_;refine X.call (BS u hr yO λj d=>?_);have v:j=bH encS (me [] (((x.types.take (i+1)).map (·.name)))):=by rw[d,map_take h5,nj]
  refine p1 ?_;exact⟨(i+1,j),⟨yP,v⟩,yP,yc⟩
 have h5:i=g:=gY X.a b h1;subst h5;rw[m,bF]at hr;clear h1 k;cbv;refine lu X (λy=>y.1<=e/\y.2=bH encS (me [] (x.types.map (·.name)++((x.values.take y.1).map (·.name))))) (λy=>e-y.1) (0,r) ⟨bD _,yU hr⟩ (λ(y:Nat×D)=>[(5,.int .i64 y.1),(3,.lst 9 y.2)]) ?_;rintro⟨i,r⟩ ⟨k,hr⟩;simp only at k hr;cbv;constructor<;>intro h1
 ·have h5:i<x.values.length:=lY X.a c h1;have u:=(Nd X.a s h5).1;have z:=iX X.a s h5;have w:=jX X.a h5;have hl:=mc (l:=x.types.map (·.name)++(x.values.take i).map (·.name));simp only[bE,bQ,cZ]at hl;refine p1 ?_;refine X.call (BS u hr yO λj d=>?_);have v:j=bH encS (me [] (x.types.map (·.name)++((x.values.take (i+1)).map (·.name)))):=by rw[d,map_take h5,<-bN,nj]
  refine p1 ?_;exact⟨(i+1,j),⟨yP,v⟩,yP,yc⟩
 have h5:i=e:=gY X.a c h1;subst h5;rw[n,bF]at hr;clear h1 k;cbv;refine lu X (λy=>y.1<=f/\y.2=bH encS (me [] (x.types.map (·.name)++x.values.map (·.name)++((x.aliases.take y.1).map (·.name))))) (λy=>f-y.1) (0,r) ⟨bD _,yU hr⟩ (λ(y:Nat×D)=>[(6,.int .i64 y.1),(3,.lst 9 y.2)]) ?_;rintro⟨i,r⟩ ⟨k,hr⟩;simp only at k hr;cbv;constructor<;>intro h1
 ·have h5:i<x.aliases.length:=lY X.a a h1;have u:=(OI X.a t h5).1;have z:=iX X.a t h5;have w:=jX X.a h5;have hl:=mc (l:=x.types.map (·.name)++x.values.map (·.name)++(x.aliases.take i).map (·.name));simp only[bE,bQ,cZ]at hl;refine p1 ?_;refine X.call (BS u hr yO λj d=>?_);have v:j=bH encS (me [] (x.types.map (·.name)++x.values.map (·.name)++((x.aliases.take (i+1)).map (·.name)))):=by rw[d,map_take h5,<-bN,nj]
  refine p1 ?_;exact⟨(i+1,j),⟨yP,v⟩,yP,yc⟩
 have h5:i=f:=gY X.a a h1;subst h5;rw[p,bF]at hr;clear h1 k;cbv;have q:=h r hr;exact q
end
def Wv{a b:U}{d a1 f b1:S}{K:PV->List Ob->Prop}(h1:d=a.1)(J:a1=a.2)(h3:f=b.1)(h4:b1=b.2)(h:∀r,r=sv a b->K (.bool r) []):
 FT 245 [] [.agg [.str d,.str a1],.agg [.str f,.str b1]] K:=by
 subst h1 J h3 h4;have da:sv a b=if a.1=b.1 then slt a.2 b.2 else slt a.1 b.1:=rfl;refine en (cf 24) Tryz.func245 λA C L X=>?_;have es:A.seq a.1 b.1=decide (a.1=b.1):=by rw[X.a];show (a.1==b.1)=_;rw[cm];simp
 have el:A.slt a.1 b.1=slt a.1 b.1:=yX;have i:A.seq a.1 b.1=true->K (.bool (A.slt a.2 b.2)) []:=λe=>h _ (by rw[da,if_pos (by rw[es]at e;simpa using e),X.a];rfl);have k:A.seq a.1 b.1=false->A.slt a.1 b.1=false->K (.bool false) []:=λe e2=>h _ (by rw[da,if_neg (by rw[es]at e;simpa using e),<-el,e2]);have j:A.slt a.1 b.1=true->K (.bool true) []:=λe=>h _ (by rw[da,if_neg (λe2=>by rw[el,e2,fi]at e;cases e),<-el,e]);cbv;repeat' (first|apply bw|exact zf|(intro J;cbv)|apply bG)
 ·exact i J
 ·rename_i g1;exact k J g1
 ·exact j J
def SH:eE:={tt:=tt,n:=45,gK:=SI.gK,own:=[33]}
def SG:eE:={tt:=tt,n:=45,gK:=SI.gK,own:=[33],n0:=1}
def R8:(∀{l:List U}{s:U}{j k:S}{d:D}{K:PV->List Ob->Prop}(n:j=s.1)(o:k=s.2)(hd:d=bH jH l)(hl:l.length<=4294967290)(h:∀ r,r=bH jH (mS s l)->K (.row 137 1) [.dead,.row 137 r true]),FT 199 [.row 137 d true] [.row 137 0,.agg [.str j,.str k]] K)/\
 (∀{l:List U}{s:U}{j k:S}{d:D}{K:PV->List Ob->Prop}(n:j=s.1)(o:k=s.2)(hd:d=bH jH l)(hl:l.length<=4294967290)(h:∀ r,r=bH jH (mS s l)->K (.lst 137 r) []),FT 199 [] [.lst 137 d,.agg [.str j,.str k]] K):=by
 refine⟨?_,?_⟩;have w:=trivial
 rotate_left
 have O:=trivial
 rotate_left
 all_goals (
  intro l s j k d K n o hd hl h
  first
   |(have H:=w
     refine FC.sC (G:=SG) eX mixed ⟨Tryz.func199,by rfl,rfl⟩ rfl rfl rfl ?_)
   |(refine FC.enter (G:=SH) eX mixed ⟨Tryz.func199,by rfl,rfl⟩ rfl rfl rfl ?_)
  intro A C L X;obtain⟨m,I,a⟩:=lenOf hd;cbv
  first
   |(have H:=w
     refine X.loop (λ(i:Nat)=>⟨[(5,.int .i64 i),(0,.row 137 1),(3,.box 2 0)],[.dead,.row 137 d true,.box [.str j,.str k]]⟩) (λi=>i<=m/\∀x∈l.take i,sv x s=true) (λi=>m-i) 0 ⟨bD _,yS⟩ ?_ ?_)
   |(refine X.loop (λ(i:Nat)=>⟨[(5,.int .i64 i),(0,.lst 137 d),(3,.box 0 0)],[.box [.str j,.str k]]⟩) (λi=>i<=m/\∀x∈l.take i,sv x s=true) (λi=>m-i) 0 ⟨bD _,yS⟩ ?_ ?_)
  ·exact yc
  rintro i ⟨P,ha⟩;have b1:A.fU (br i) (A.len d):=by rw[X.a,a];simp only[SD];omega
  have b2:A.fU 0 (br i):=by rw[X.a];simp only[SD];omega
  have F:A.fU (A.len d) (A.len d):=by rw[X.a,a];simp only[SD];omega
  have u:([.str j,.str k]:List D)=jH s:=by rw[n,o];rfl
  have M:=Tn (i:=i) X.a hd hl;have B:=Tl (i:=i) (ys:=[.str j,.str k]) X.a hd hl;have E:=Tk X.a hd (by omega:i<=l.length) hl u;have e3:=Tt (i:=i) X.a hd u
  first
   |(have H:=w
     have q:mS s l=l.take i++s::l.drop i->K (.row 137 1) [.dead,.row 137 (A.app (A.app (A.app (A.lit []) (A.part d 0 (br i))) (A.lit [[.str j,.str k]])) (A.part d (br i) (A.len d))) true]:=λe=>h _ (by rw[e3,e]))
   |(have q:mS s l=l.take i++s::l.drop i->K (.lst 137 (A.app (A.app (A.app (A.lit []) (A.part d 0 (br i))) (A.lit [[.str j,.str k]])) (A.part d (br i) (A.len d)))) []:=λe=>h _ (by rw[e3,e]))
  cbv;refine⟨λ(_:False->False)=>by kernel_rfl,λh1=>?_,λh1=>?_⟩
  ·have h5:i<l.length:=lY X.a a h1;obtain⟨z,N⟩:=PY X.a hd h5;have Z:A.ite (A.seq (A.bL (A.cell d (br i) 0)) j) (A.ite (A.seq (A.bL (A.cell d (br i) 1)) k) true false) false=decide (l[i]=s):=by rw[z,N,n,o,X.a];have e:(l[i]=s)↔(l[i].1=s.1/\l[i].2=s.2):=Prod.ext_iff;rw[C9,C9,vE,vE];by_cases e1:l[i].1=s.1<;>by_cases e2:l[i].2=s.2<;>simp[e,e1,e2]
   have f:A.lt (br i) (A.len d)=true:=h1;have y:=iX X.a hd h5;have v:=jX X.a h5;refine p1 ?_;refine X.call (Wv z N n o λb hb=>?_);have p:b=sv l[i] s:=hb;clear hb;cbv;repeat' (first|apply bw|exact zf|(intro J;cbv)|apply bG)
   any_goals exact y
   any_goals exact v
   any_goals exact b1
   any_goals exact b2
   any_goals exact F
   any_goals exact M
   any_goals exact B
   any_goals exact E
   ·refine⟨i+1,⟨yO,?_⟩,yO,?_⟩
    ·rename_i h3;have h4:sv l[i] s=true:=p.symm.trans h3;rw[bX h5];intro x t;rcases bJ.1 t with t|t
     ·exact ha x t
     ·simp at t;subst t;exact h4
    exact yc
   all_goals first
    |(exfalso;have:=f.symm.trans J;exact absurd this yD)
    |(rename_i g1 g2
      have hs:l[i]? =some s:=by rw[bB h5];have:=Z.symm.trans J;simpa using this
      exact h d (by rw[xK yO ha (λ_=>p.symm.trans g1),if_pos hs];exact hd))
    |(rename_i g1 g2
      have hs:¬l[i]? =some s:=by rw[bB h5];have:=Z.symm.trans J;simpa using this
      exact q (by rw[xK yO ha (λ_=>p.symm.trans g1),if_neg hs]))
    |trace_state
  ·have h5:i=m:=gY X.a a h1;have hs:¬l[i]? =some s:=by rw[bY yO];simp
   have q:=q (by rw[xK yO ha (λ_=>yO),if_neg hs]);have f:A.lt (br i) (A.len d)=false:=h1;cbv;repeat' (first|apply bw|exact zf|(intro J;cbv)|apply bG)
   any_goals exact b1
   any_goals exact b2
   any_goals exact F
   any_goals exact M
   any_goals exact B
   any_goals exact E
   all_goals first
    |(exfalso;have:=f.symm.trans J;exact absurd this yD)
    |exact q
    |(exfalso;rename_i g1;have:=f.symm.trans g1;exact absurd this yD)
    |trace_state)
def SR:eE:={tt:=tt,n:=46,own:=[8],eB:=[199]}
def Sa:(∀(t:Ty),Ty.le 4294967295 t->t.size<=4294967290->∀{I:Int}{c1 c2:S}{c g:D}{K:PV->List Ob->Prop},cD t I c1 c2 c g->(∀r,r=bH jH (j6 t.fG)->K (.row 137 0) [.row 137 r true])->FT 146 [] [df I c1 c2 c g] K)/\
 (∀(t:Ty),Ty.le 4294967295 t->t.size<=4294967290->∀{I:Int}{c1 c2:S}{c g:D}{K:PV->List Ob->Prop},cD t I c1 c2 c g->(∀r,r=bH jH (j6 t.fG)->K (.lst 137 r) [])->FT 146 [] [df I c1 c2 c g] K):=by
 refine⟨?_,?_⟩;have v:=trivial
 rotate_left
 have zB:=trivial
 rotate_left
 all_goals (
  refine Ty.fC λt ih=>?_;intro P hs I c1 c2 c g K ht h;obtain⟨t0,t1,t2,_,_⟩:=id ht;have ai:=km t;have fL:=size_eq t;have al:=KB t
  first
   |(have w:=v
     refine FC.ln (G:=SR) eX mixed ⟨Tryz.func146,by rfl,rfl⟩ rfl rfl rfl ?_)
   |(refine FC.enter (G:=cf 46) eX mixed ⟨Tryz.func146,by rfl,rfl⟩ rfl rfl rfl ?_)
  intro A C L X;have gD:A.eq I 10=decide (t.k=10):=by rw[t0,X.a];rfl
  have p1:t.k=10->A.app (A.lit []) (A.lit [[.str c1,.str c2]])=bH jH (ig t.self (jD (t.dP.take 0))):=λe=>by rw[Ty.self,if_pos e,X.a,t1,t2];rfl
  have p2:¬t.k=10->A.lit []=bH jH (ig t.self (jD (t.dP.take 0))):=λe=>by rw[Ty.self,if_neg e,X.a];rfl
  have bb:A.fU (A.add (A.len (A.lit [])) (A.len (A.lit [[.str c1,.str c2]]))) 4294967296:=by rw[X.a];simp only[SD];omega
  cbv;repeat' (first|apply bw|exact zf|(intro J;cbv)|apply bG)
  any_goals exact bb
  all_goals (
   refine X.call (PF P yO ht λM x=>?_);obtain⟨d,E,k⟩:=lenOf x;have p3:∃o,o=bH jH (ig t.self (jD (t.dP.take 0))):=⟨_,rfl⟩;cbv
   first
    |(have N:=p1 (by rw[gD]at J;simpa using J)
      first
       |(have w:=v
         refine X.iC (λ(y:Nat×D)=>⟨[(5,.int .i64 y.1),(3,.row 137 0),(4,.lst 29 M)],[.row 137 y.2 true]⟩)
          (λy=>y.1<=d/\y.2=bH jH (ig t.self (jD (t.dP.take y.1)))) (λy=>d-y.1) (0,_) ⟨bD _,N⟩ ?_ ?_)
       |(refine X.loop (λ(y:Nat×D)=>⟨[(5,.int .i64 y.1),(3,.lst 137 y.2),(4,.lst 29 M)],[]⟩)
          (λy=>y.1<=d/\y.2=bH jH (ig t.self (jD (t.dP.take y.1)))) (λy=>d-y.1) (0,_) ⟨bD _,N⟩ ?_ ?_)
      ·skip
       first
        |(have w:=v
          refine⟨[1],rfl,?_⟩)
        |(skip)
       exact yc)
    |(have N:=p2 (by rw[gD]at J;simpa using J)
      first
       |(have w:=v
         refine X.iC (λ(y:Nat×D)=>⟨[(5,.int .i64 y.1),(3,.row 137 0),(4,.lst 29 M)],[.row 137 y.2 true]⟩)
          (λy=>y.1<=d/\y.2=bH jH (ig t.self (jD (t.dP.take y.1)))) (λy=>d-y.1) (0,_) ⟨bD _,N⟩ ?_ ?_)
       |(refine X.loop (λ(y:Nat×D)=>⟨[(5,.int .i64 y.1),(3,.lst 137 y.2),(4,.lst 29 M)],[]⟩)
          (λy=>y.1<=d/\y.2=bH jH (ig t.self (jD (t.dP.take y.1)))) (λy=>d-y.1) (0,_) ⟨bD _,N⟩ ?_ ?_)
      ·skip
       first
        |(have w:=v
          refine⟨[1],rfl,?_⟩)
        |(skip)
       (cbv;repeat' apply bw);all_goals try first|trivial|rfl|(rw[X.a];rfl)))
  all_goals (
   rintro⟨i,out⟩ ⟨hi,hr⟩;simp only at hi hr;cbv;constructor<;>intro h1
   ·have h5:i<t.dP.length:=lY X.a k h1;have k1:=gI X.a x h5;have F:=iX X.a x h5;have V:=jX X.a h5;have u:=bx h5;have ao:=uw u;have T:=hY t.dP[i];cbv;repeat' (first|apply bw|exact zf|(intro J;cbv)|apply bG)
    any_goals exact F
    refine X.call (ih _ u (gP P _ u) yO k1 λr2 s=>?_);obtain⟨l,z⟩:∃l,l=j6 t.dP[i].fG:=⟨_,rfl⟩;have s:r2=bH jH l:=by rw[z];exact s
    have ah:l.length<=t.dP[i].size:=by rw[z];exact bR kI T
    have B:=Ge h5;rw[<- z]at B;have aj:(jD (t.dP.take i)).length+l.length<=(t.dP.map Ty.size).sum:=by have a:=IY (l:=t.dP.take (i+1));have b:=kl (f:=Ty.size) (l:=t.dP) (i:=i+1);rw[B,bE]at a;omega
    obtain⟨m,H,n⟩:=lenOf s;cbv
    first
     |(have w:=v
       refine X.iC (λ(y:Nat×D)=>⟨[(7,.int .i64 y.1),(6,.row 137 1),(3,.row 137 0),(5,.int .i64 i),(4,.lst 29 M)],[.row 137 y.2 true,.row 137 r2 true]⟩)
        (λy=>y.1<=m/\y.2=bH jH (ig (ig t.self (jD (t.dP.take i))) (l.take y.1))) (λy=>m-y.1) (0,out) ⟨bD _,hr⟩ ?_ ?_)
     |(refine X.loop (λ(y:Nat×D)=>⟨[(7,.int .i64 y.1),(6,.lst 137 r2),(3,.lst 137 y.2),(5,.int .i64 i),(4,.lst 29 M)],[]⟩)
        (λy=>y.1<=m/\y.2=bH jH (ig (ig t.self (jD (t.dP.take i))) (l.take y.1))) (λy=>m-y.1) (0,out) ⟨bD _,hr⟩ ?_ ?_)
    ·skip
     first
      |(have w:=v
        refine⟨[0,1],rfl,?_⟩)
      |(skip)
     exact yc
    ·rintro⟨j,o2⟩ ⟨hj,p⟩;simp only at hj p;cbv;constructor<;>intro h1
     ·have h6:j<l.length:=lY X.a n h1;obtain⟨k2,k3⟩:=PY X.a s h6;have F:=iX X.a s h6;have Q:=jX X.a h6;have W:=wz (l:=l.take j) (a:=ig t.self (jD (t.dP.take i)));have U:=wz (l:=jD (t.dP.take i)) (a:=t.self);have da:(l.take j).length<=l.length:=yQ;cbv;repeat' (first|apply bw|exact zf|(intro J;cbv)|apply bG)
      any_goals exact F
      first
       |(have w:=v
         refine X.call (R8.1 k2 k3 p yO λR O=>?_))
       |(refine X.call (R8.2 k2 k3 p yO λR O=>?_))
      have q1:R=bH jH (ig (ig t.self (jD (t.dP.take i))) (l.take (j+1))):=by rw[bX h6,GA];exact O
      cbv;repeat' (first|apply bw|exact zf|(intro J;cbv)|apply bG)
      any_goals exact Q
      first
       |(have w:=v
         refine⟨(j+1,R),⟨?_,q1⟩,?_,[2,1],rfl,?_⟩)
       |(refine⟨(j+1,R),⟨?_,q1⟩,?_,?_⟩)
      ·simp only;omega
      ·simp only;omega
      exact yc
     ·have h6:j=m:=gY X.a n h1;rw[h6,H,bF,<-Jk,<-B]at p;cbv;repeat' (first|apply bw|exact zf|(intro J;cbv)|apply bG)
      any_goals exact V
      first
       |(have w:=v
         refine⟨(i+1,o2),⟨?_,p⟩,?_,[0],rfl,?_⟩)
       |(refine⟨(i+1,o2),⟨?_,p⟩,?_,?_⟩)
      ·simp only;omega
      ·simp only;omega
      exact yc
   ·have h5:i=d:=gY X.a k h1;rw[h5,E,bF,IZ]at hr;have q:=h out hr;cbv;exact q))
section
variable {c g:D}{K:PV->List Ob->Prop}
def T4{t:Ty}(a:Ty.le 4294967295 t)(hs:t.size<=4294967290){b:Int}{c1 c2:S}(d:cD t b c1 c2 c g)(h:∀r,r=bH jH (j6 t.fG)->K (.lst 137 r) []):
 FT 146 [] [df b c1 c2 c g] K:=Sa.2 t a hs d h
def UW:eE:={tt:=tt,n:=75,gK:=Ys.gK,own:=[53]}
def Zk{x:IF}{c0:S}{c1 c2:D}(hx:jN x c0 c1 c2 c g)(ah:x.ok)(hw:x.wt<=4294967290)
 (h:∀r,r=bH encS (K3 x)->K (.lst 9 r) []):FT 99 [] [mf c0 c1 c2 c g] K:=by
 have am:=hx;obtain⟨x0,aH,aD,ab,aB⟩:=hx;have ap:=xW x;have an:=xX x;obtain⟨ts,w⟩:∃ts,ts=eP x:=⟨_,rfl⟩;have T:=Eh x;have ar:∀u∈ts,Ty.le 4294967295 u:=λu hu=>AQ ah (by rw[<- w];exact hu);rw[<- w]at ap an T;have aF:=Bl ts;refine en UW Tryz.func99 λA C L X=>?_;obtain⟨F,V,t⟩:=lenOf ab;cbv;refine X.call (Wn am ah (by rw[<- w];omega) λdt I=>?_);rw[<- w]at I;obtain⟨H,Q,o⟩:=lenOf I;cbv;refine lu X (λy=>y.1<=H/\y.2=bH encS (me [] (kN (ts.take y.1)))) (λy=>H-y.1) (0,A.lit []) ⟨bD _,yX⟩ (λ(y:Nat×D)=>[(5,.int .i64 y.1),(3,.lst 9 y.2)]) ?_
 ·rintro⟨i,out⟩ ⟨hi,hr⟩;simp only at hi hr;cbv;constructor<;>intro h1
  ·have h5:i<ts.length:=lY X.a o h1;have k1:=gI X.a I h5;have M:=iX X.a I h5;have ag:=jX X.a h5;have O:=bx h5;have aE:ts[i].size<=(ts.map Ty.size).sum:=tk O;refine p1 ?_;refine X.call (T4 (ar _ O) yO k1 λr2 B=>?_);obtain⟨l,R⟩:∃l,l=j6 ts[i].fG:=⟨_,rfl⟩;have B:r2=bH jH l:=by rw[R];exact B
   have W:=Gl h5;rw[<- R]at W;have ay:l.length<=ts[i].size:=by rw[R];exact bR kI (hY _)
   have az:(kN (ts.take i)).length+l.length<=(ts.map Ty.size).sum:=by have a:=Bl (ts.take (i+1));have b:=kl (f:=Ty.size) (l:=ts) (i:=i+1);rw[W,bE,bQ]at a;omega
   obtain⟨G,aa,v⟩:=lenOf B;cbv;refine lu X (λy=>y.1<=G/\y.2=bH encS (me [] (kN (ts.take i)++(l.take y.1).map (·.1)))) (λy=>G-y.1) (0,out) ⟨bD _,yU hr⟩ (λ(y:Nat×D)=>[(7,.int .i64 y.1),(3,.lst 9 y.2)]) ?_
   ·rintro⟨j,o2⟩ ⟨hj,d⟩;simp only at hj d;cbv;constructor<;>intro h1
    ·have h6:j<l.length:=lY X.a v h1;obtain⟨k2,k3⟩:=PY X.a B h6;have M:=iX X.a B h6;have P:=jX X.a h6;have m:=mc (l:=kN (ts.take i)++(l.take j).map (·.1));simp only[bE,bQ,cZ]at m;refine p1 ?_;refine X.call (BS k2 d yO λr4 n=>?_);have q1:r4=bH encS (me [] (kN (ts.take i)++(l.take (j+1)).map (·.1))):=by rw[map_take h6,<-bN,nj];exact n
     refine p1 ?_;exact⟨(j+1,r4),⟨yP,q1⟩,yP,yc⟩
    ·have h6:j=G:=gY X.a v h1;rw[h6,aa,bF,<-W]at d;refine p1 ?_;exact⟨(i+1,o2),⟨yP,d⟩,yP,yc⟩
  have h5:i=H:=gY X.a o h1;rw[h5,Q,bF]at hr;clear h1 hi;cbv;refine lu X (λy=>y.1<=F/\y.2=bH encS (me [] (kN ts++(x.aliases.take y.1).map (·.module)))) (λy=>F-y.1) (0,out) ⟨bD _,yU hr⟩ (λ(y:Nat×D)=>[(8,.int .i64 y.1),(3,.lst 9 y.2)]) ?_;rintro⟨j,o2⟩ ⟨hj,d⟩;simp only at hj d;cbv;constructor<;>intro h1
  ·have h6:j<x.aliases.length:=lY X.a t h1;obtain⟨k1,k2,k3⟩:=tU X.a ab h6;have M:=iX X.a ab h6;have P:=jX X.a h6;have m:=mc (l:=kN ts++(x.aliases.take j).map (·.module));simp only[bE,bQ,cZ]at m;refine p1 ?_;refine X.call (BS k2 d yO λr4 n=>?_);have q1:r4=bH encS (me [] (kN ts++(x.aliases.take (j+1)).map (·.module))):=by rw[map_take h6,<-bN,nj];exact n
   cbv;repeat' (first|apply bw|exact zf|(intro J;cbv)|apply bG)
   any_goals exact P
   exact⟨(j+1,r4),⟨yP,q1⟩,yP,yc⟩
  have h6:j=F:=gY X.a t h1;rw[h6,V,bF]at d;obtain⟨z,ai⟩:∃z,z=me [] (kN ts++x.aliases.map (·.module)):=⟨_,rfl⟩;rw[<- ai]at d T;have aw:z.length<=4294967290:=by have m:=mc (l:=kN ts++x.aliases.map (·.module));simp only[bE,bQ]at m;rw[ai];omega
  obtain⟨E,U,s⟩:=lenOf d;clear h1 hj;cbv;refine lP X (λy=>y.1<=E/\y.2=bH encS ((z.take y.1).filter (M4 x.path))) (λy=>E-y.1) (0,A.lit []) ⟨bD _,yX⟩ [0,1] (λ(y:Nat×D)=>⟨[(10,.int .i64 y.1),(3,.lst 9 o2),(1,.box 0 0),(9,.row 9 1)],[.box [.str c0,.lst 45 c1,.lst 99 c2,.lst 141 c,.lst 152 g],.row 9 y.2 true]⟩) ?_;rintro⟨k,o3⟩ ⟨hk,n⟩;simp only at hk n;cbv;constructor<;>intro h1
  ·have h7:k<z.length:=lY X.a s h1;have k1:=jR X.a d h7;have M:=iX X.a d h7;have ag:=jX X.a h7;have N:=Js (p:=M4 x.path) h7;have aC:((z.take k).filter (M4 x.path)).length<=k:=bR (th _ _) yQ;have Z:A.seq (A.bL (A.cell o2 (br k) 0)) c0=(z[k]==x.path):=by rw[k1,x0,X.a];rfl
   have ao:A.fU (A.add (A.len o3) (A.len (A.lit [[.str (A.bL (A.cell o2 (br k) 0))]]))) 4294967296:=by rw[X.a,n,cT,iW];exact⟨by rw[dO];omega,by rw[dO];simp only[bS,cH];omega⟩
   have q1:A.app o3 (A.lit [[.str (A.bL (A.cell o2 (br k) 0))]])=bH encS ((z.take k).filter (M4 x.path)++[z[k]]):=by rw[k1,X.a,n];exact cx (k:=[z[k]])
   cbv;repeat' (first|apply bw|exact zf|(intro J;cbv)|apply bG)
   any_goals exact M
   any_goals exact ao
   any_goals exact ag
   ·rename_i g1;have e:M4 x.path z[k]=true:=by rw[Z]at g1;obtain rfl:=X.a;unfold M4;simpa only[SD,dq]using g1
    rw[if_pos e]at N;have q2:=q1.trans (by rw[<- N]);exact⟨(k+1,_),⟨yP,q2⟩,yP,[0,1],rfl,yc⟩
   ·rename_i g1;have e:M4 x.path z[k]=false:=by rw[Z]at g1;obtain rfl:=X.a;unfold M4;simpa only[SD,dq]using g1
    rw[e]at N;refine⟨(k+1,o3),⟨?_,?_⟩,?_,[0,1],rfl,?_⟩
    ·simp only;omega
    ·simp only;rw[n,N];simp
    ·simp only;omega
    exact yc
  have h7:k=E:=gY X.a s h1;rw[h7,U,bF,T]at n;have q:=h o3 n;cbv;exact q
end
def PH{t:Ty}(a:Ty.le 4294967295 t)(hs:t.size<=4294967290){d:Int}{c1 c2:S}{b c:D}{K:PV->List Ob->Prop}(e:cD t d c1 c2 b c)(h:∀r,r=bH jH (j6 t.fG)->K (.row 137 0) [.row 137 r true]):
 FT 146 [] [df d c1 c2 b c] K:=Sa.1 t a hs e h
end Go.VC.cK
namespace Go.VC
def uZ(i:IF)(us:List U):List S:=us.filterMap λu=>fu i u.1 u.2
def Je(i:IF)(us:List U)(u:U):uZ i (us++[u])=uZ i us++(match fu i u.1 u.2 with|some e=>[e]|none=>[]):=by unfold uZ;rw[List.filterMap_append,List.filterMap_cons,List.filterMap_nil];cases fu i u.1 u.2<;>rfl
def Lk{i:IF}{us:List U}{e:S}:e∈uZ i us↔∃u∈us,fu i u.1 u.2=some e:=by unfold uZ;rw[List.mem_filterMap]
def Ll(i:IF)(us:List U):(uZ i us).length<=us.length:=List.length_filterMap_le _ _
def AU{a b:List U}{u:U}:u∈j6 a++j6 b↔u∈a++b:=by rw[bJ,bJ,oW,oW]
end Go.VC
namespace Go.VC.cK
open Go Go.VC Go.Proofs
def Q8{i:IF}(q:i.ok){o:S}{c1 c2 j m:D}(r:jN i o c1 c2 j m){p n:S}{K:PV->List Ob->Prop}
 (h:∀e b,b=(fu i p n).isSome->(b=true->fu i p n=some e)->K (.tup [.str e,.bool b]) []):
 FT 196 [] [mf o c1 c2 j m,.str p,.str n] K:=by
 have k:dW [i]:=⟨yS,yU q⟩;have d:=r;obtain⟨s,w,v,u,t⟩:=d;refine en (cf 34) Tryz.func196 λA C L X=>?_;have Z:=mI X.a;have hd:A.lit [[.str o,c1,c2,j,m]]=bH dC [i]:=by rw[X.a,s,w,v,u,t];rfl
 cbv;refine X.call (TB hd k λr0 f r2 hr=>?_);obtain⟨a,c⟩:=Er hr;have key:∀b,b=(r2==0&&(ox i f).isSome)->K (.tup [.str f,.bool b]) []:=λb hb=>h _ _ (hb.trans a.symm) (λl=>c (by rw[a,<-hb,l]));clear a c hr h;cbv;refine X.call (JV.1 r q.nt rfl λx e1 e2 e3 e4 e5 e6 e7 e8 e9 gD nZ b g hb=>?_);have hb:b=(ox i f).isSome:=hb;rw[<- hb]at key;clear g hb;cbv;repeat' (first|apply bw|exact zf|(intro J;cbv)|apply bG)
 all_goals (refine key _ ?_;simp only[dq,Z]at *;simp_all;done)
end Go.VC.cK
namespace Go.VC
structure Rc (i:IF) (n:S) (out:List S) (k:Nat):Prop where
 nd:out.Nodup
 Lz:∀s∈out,oP i n s
 st:∀e,qj i n e->e∈out
 cl:∀s∈out.take k,∀e,qj i s e->e∈out
def Rc.fin{i:IF}{n:S}{out:List S}(h:Rc i n out out.length):∀s,s∈out↔oP i n s:=by
 intro s;refine⟨h.Lz s,λhr=>?_⟩;induction hr with
 |one hd=>exact h.st _ hd
 |more _ hd a=>exact h.cl _ (by rw[bF];exact a) _ hd
def Rc.add{i:IF}{n s:S}{out:List S}{k:Nat}(h:Rc i n out k)(hk:k<out.length)(hs:s∉out)(hd:qj i out[k] s):Rc i n (out++[s]) k:=by
 refine⟨?_,λx c=>?_,λe d=>by simp[h.st e d],λx c e d=>?_⟩
 ·rw[eb];exact⟨h.nd,yS,λa ha b hb=>by simp at hb;subst hb;exactλe=>hs (e▸ha)⟩
 ·rcases bJ.1 c with c|c
  ·exact h.Lz x c
  ·simp at c;subst c;exact .more (h.Lz _ (bx hk)) hd
 ·rw[AF yO]at c;simp[h.cl x c e d]
def Rc.next{i:IF}{n:S}{out:List S}{k:Nat}(h:Rc i n out k)(hk:k<out.length)(hd:∀e,qj i out[k] e->e∈out):Rc i n out (k+1):=by
 refine⟨h.nd,h.Lz,h.st,λs hs e a=>?_⟩;rw[bX hk]at hs;rcases bJ.1 hs with hs|hs
 ·exact h.cl s hs e a
 ·simp at hs;subst hs;exact hd e a
def Rc.len{i:IF}{n:S}{out:List S}{k:Nat}(h:Rc i n out k):out.length<=i.types.length:=kK h.nd λs hs=>(h.Lz s hs).has
structure Dp (g:S->List S) (p:S) (out:List S) (k:Nat):Prop where
 nd:out.Nodup
 hd:out[0]? =some p
 Lz:∀s∈out,s=p\/LR g p s
 cl:∀s∈out.take k,∀e∈g s,e∈out/\e≠p
def Dp.start{g:S->List S}{p:S}:Dp g p [p] 0:=⟨yS,rfl,λs hs=>by simp at hs;exact .inl hs,yS⟩
def Dp.step{g:S->List S}{p s e:S}(h:s=p\/LR g p s)(a:e∈g s):LR g p e:=by
 rcases h with rfl|h
 ·exact .one a
 ·exact .more h a
def Dp.add{g:S->List S}{p s:S}{out:List S}{k:Nat}(h:Dp g p out k)(hk:k<out.length)(hs:s∉out)(hd:s∈g out[k]):Dp g p (out++[s]) k:=by
 refine⟨?_,?_,λx c=>?_,λx c e d=>?_⟩
 ·rw[eb];exact⟨h.nd,yS,λa ha b hb=>by simp at hb;subst hb;exactλe=>hs (e▸ha)⟩
 ·rw[bU yO];exact h.hd
 ·rcases bJ.1 c with c|c
  ·exact h.Lz x c
  ·simp at c;subst c;exact .inr (Dp.step (h.Lz _ (bx hk)) hd)
 ·rw[AF yO]at c;obtain⟨a,b⟩:=h.cl x c e d;exact⟨by simp[a],b⟩
def Dp.next{g:S->List S}{p:S}{out:List S}{k:Nat}(h:Dp g p out k)(hk:k<out.length)(hd:∀e∈g out[k],e∈out/\e≠p):Dp g p out (k+1):=by
 refine⟨h.nd,h.hd,h.Lz,λs hs e a=>?_⟩;rw[bX hk]at hs;rcases bJ.1 hs with hs|hs
 ·exact h.cl s hs e a
 ·simp at hs;subst hs;exact hd e a
def Dp.mem{g:S->List S}{p:S}{out:List S}{k:Nat}(h:Dp g p out k):p∈out:=fv h.hd
def Dp.fin{g:S->List S}{p:S}{out:List S}(h:Dp g p out out.length):¬LR g p p:=by
 have key:∀s,LR g p s->s∈out/\s≠p:=by
  intro s hr;induction hr with
  |one hd=>exact h.cl p (by rw[bF];exact h.mem) _ hd
  |more _ hd a=>exact h.cl _ (by rw[bF];exact a.1) _ hd
 exactλhr=>(key p hr).2 rfl
def Dp.len{g:S->List S}{p:S}{out:List S}{k:Nat}(h:Dp g p out k){T:Nat}(hb:GB g T):out.length<=T+1:=by
 obtain⟨M3,h1,J⟩:=hb.all
 have:out.length<=(p::M3).length:=fm h.nd λs hs=>by
  rcases h.Lz s hs with rfl|hr
  ·simp
  ·refine gG _ ?_;cases hr with
   |one h=>exact J _ _ h
   |more _ h=>exact J _ _ h
 simpa using bR this (yU h1)
def Dp.last{g:S->List S}{p:S}{out:List S}{k:Nat}(h:Dp g p out k):∀s,(out.drop 1).getLast? =some s->s≠p:=by
 intro s hs e;subst e;have b:s∈out.drop 1:=List.mem_of_getLast? hs
 match out,h.hd,h.nd with
 |a::l,hd,nd=>simp at hd;subst hd;rw[cn]at nd;exact nd.1 (yU b)
def Jr{env:List IF}(h:env.Pairwise (λa b=>slt a.path b.path=true))(p:S):env.reverse.find? (λx=>x.path==p)=gu env p:=by
 unfold gu;induction env with
 |nil=>rfl
 |cons x l c=>
  rw[cJ]at h;rw[List.reverse_cons,List.find?_append,c h.2,cB,cB,List.find?_nil];cases f:(x.path==p)with
  |false=>cases List.find? (λx=>x.path==p) l<;>rfl
  |true=>
   have:List.find? (λx=>x.path==p) l=none:=by rw[eV];intro y d e;have h1:=h.1 y d;rw[eq_of_beq f,eq_of_beq e,fi]at h1;cases h1
   rw[this];rfl
def LL{env:List IF}(h:env.Pairwise (λa b=>slt a.path b.path=true))(s:S):zw env s=pd ((gu env s).getD IF.zero):=by
 unfold zw;rw[Jr h];cases gu env s with
 |some x=>rfl
 |none=>rw[qD];exact xH (x:=IF.zero) (l:=[]) .nil (λs=>by simp[rB,uR,IF.zero])
def Jd{i:IF}{us:List U}{k:Nat}(h:k<us.length):uZ i (us.take (k+1))=uZ i (us.take k)++(match fu i us[k].1 us[k].2 with|some e=>[e]|none=>[]):=by rw[bX h,Je]<;>rfl
end Go.VC
namespace Go.VC.cK
open Go Go.VC Go.Proofs
def Sy:eE:={tt:=tt,n:=52,gK:=Vo.gK,own:=[25],eB:=[145]}
def TL{i:IF}(P:i.ok)(fL:∀x∈i.types,x.lower.size<=1048576/\x.upper.size<=1048576){T:S}{c1 c2 O R:D}(W:jN i T c1 c2 O R){n:S}{K:PV->List Ob->Prop}
 (h:∀l r,mj l->(∀e,e∈l↔qj i n e)->r=bH encS l->K (.row 9 0) [.row 9 r true]):
 FT 244 [] [mf T c1 c2 O R,.str n] K:=by
 refine eo Sy Tryz.func244 λA C L X=>?_;cbv;refine X.call (JV.1 W P.nt rfl λe0 e1 e2 e3 e4 e5 e6 e7 e8 e9 gD nZ b p hb=>?_);obtain⟨x,g⟩:∃x,x=(ox i n).getD TE.zero:=⟨_,rfl⟩;have p:oA x e0 e1 e2 e3 e4 e5 e6 e7 e8 e9 gD nZ:=by rw[g];exact p
 have d:x.ok/\x.lower.size<=1048576/\x.upper.size<=1048576:=by
  rw[g];cases hf:ox i n with
  |none=>exact⟨mY,by simp[TE.zero,Ty.zero,Ty.size,Ty.sY,Ty.sZ],by simp[TE.zero,Ty.zero,Ty.size,Ty.sY,Ty.sZ]⟩
  |some y=>have hm:=di hf;exact⟨P.t _ hm,fL _ hm⟩
 obtain⟨a0,a1,B,E⟩:=p;have F:x.lower.fG++x.upper.fG=iz i n:=by rw[g];rfl
 clear hb g;have z1:=hY x.lower;have z2:=hY x.upper;cbv;repeat' (first|apply bw|exact zf|(intro J;cbv)|apply bG|(refine X.call (PH d.1.lo (bR d.2.1 yD) B λV t=>?_);cbv)|(refine X.call (PH d.1.up (bR d.2.2 yD) E λd2 m=>?_);cbv))
 ·rw[X.a,t,m];simp only[SD,dq];have:=kI (l:=x.lower.fG);have:=kI (l:=x.upper.fG);omega
 obtain⟨us,c⟩:∃us,us=j6 x.lower.fG++j6 x.upper.fG:=⟨_,rfl⟩;have j:A.app V d2=bH jH us:=by rw[X.a,t,m,cx,c]
 have ae:us.length<=2097152:=by rw[c,bE];have:=kI (l:=x.lower.fG);have:=kI (l:=x.upper.fG);omega
 have G:∀e,e∈n9 (uZ i us)↔qj i n e:=λe=>by
  rw[oX,Lk,qj,<-F];constructor
  ·rintro⟨u,hu,hl⟩;exact⟨u,by rw[c]at hu;exact AU.1 hu,hl⟩
  ·rintro⟨u,hu,hl⟩;exact⟨u,by rw[c];exact AU.2 hu,hl⟩
 obtain⟨w,z⟩:∃w,w=A.app V d2:=⟨_,rfl⟩;rw[<- z]at j;clear t m z1 z2 d B E F c;obtain⟨f,s,a⟩:=lenOf j
 refine X.iC (λ(y:Nat×D)=>⟨[(9,.int .i64 y.1),(8,.row 9 2),(7,.row 137 1),(2,.box 0 0)],[.box [.str T,.lst 45 c1,.lst 99 c2,.lst 141 O,.lst 152 R],.row 137 w true,.row 9 y.2 true]⟩)
  (λy=>y.1<=f/\y.2=bH encS (me [] (uZ i (us.take y.1)))) (λy=>f-y.1) (0,A.lit []) ⟨bD _,yX⟩ ?_ ?_
 ·refine⟨[0,2,4],rfl,?_⟩
  (cbv;repeat' apply bw);all_goals try first|trivial|rfl|(rw[X.a];rfl)
  exact z.symm
 rintro⟨k,r⟩ ⟨hk,hr⟩;simp only at hk hr;cbv;refine⟨λh1=>?_,λh1=>?_⟩
 ·have h5:k<us.length:=lY X.a a h1;obtain⟨k1,k2⟩:=PY X.a j h5;have Q:=iX X.a j h5;have N:=jX X.a h5;have o:=Jd (i:=i) h5;rw[<- k1,<-k2]at o;have ad:=mc (l:=uZ i (us.take k));have H:=Ll i (us.take k);rw[cZ]at H;clear h1;cbv;repeat' (first|apply bw|exact zf|(intro J;cbv)|apply bG|(refine X.call (Q8 P W λe b hb he=>?_);cbv)|(refine X.call (Sb.1 hr yO λU I=>?_);cbv))
  any_goals exact Q
  all_goals try exact N
  ·have v:b=true:=yA;have M:U=bH encS (me [] (uZ i (us.take (k+1)))):=by rw[o,he v,nj];exact I
   exact⟨(k+1,U),⟨yP,M⟩,yP,[0,1,3],rfl,yc⟩
  ·have v:b=false:=yA;have M:r=bH encS (me [] (uZ i (us.take (k+1)))):=by rw[v]at hb;have hn:fu i (A.bL (A.cell w (br k) 0)) (A.bL (A.cell w (br k) 1))=none:=yU hb.symm;rw[o,hn,cA];exact hr
   exact⟨(k+1,r),⟨yP,M⟩,yP,[0,1,2],rfl,yc⟩
 ·have h5:k=f:=gY X.a a h1;rw[h5,s,bF]at hr;have q:=h (n9 (uZ i us)) r (sc _) G hr;cbv;exact q
end Go.VC.cK
namespace Go.VC
structure En where
 q:Int
 k:Int
 s:S
def td(x:En):List D:=[.int x.q,.int x.k,.str x.s]
def fN(q:Int):Nat->List S->List En
 |_,[]=>[]
 |k,s::l=>⟨q,br k,s⟩::fN q (k+1) l
def rO(i:IF):List En:=fN 0 0 (lh i)++fN 1 0 (kL i)++fN 2 0 (lK i)++fN 3 0 (qL i)
def oU(q:Int):∀(k:Nat)(l:List S),(fN q k l).length=l.length
 |_,[]=>rfl
 |k,s::l=>by rw[fN,bS,oU q (k+1) l,bS]
def AS(q:Int)(s:S):∀(k:Nat)(l:List S),fN q k (l++[s])=fN q k l++[⟨q,br (k+l.length),s⟩]
 |k,[]=>by simp[fN]
 |k,x::l=>by rw[cO,fN,AS q s (k+1) l,fN];simp[mn,Nat.add_left_comm]
def sP(x:En):Bool:=if x.q=0 then iT x.s else ie x.s||(decide (2<=x.q)&&iT x.s)
def so:Option En->List En->S×Int
 |_,[]=>([],0)
 |p,x::l=>if sP x=false then(x.s,4)else
  match p with
  |some y=>if 0<x.k/\slt y.s x.s=false then(if y.s=x.s then(x.s,5)else(x.s,1))else so (some x) l
  |none=>so (some x) l
def rD(q:Int)(s:S):Bool:=sP ⟨q,0,s⟩
def uM(q:Int)(rest:List En)(hr:∀p p',so p rest=so p' rest):∀(l:List S)(k:Nat)(p:Option En),(0<k->∃y,p=some y)->so p (fN q k l++rest)=fE (gT (rD q) (if k=0 then none else p.map En.s) l) (so none rest)
 |[],k,p,_=>by rw[fN,ep,hr p none];unfold fE;cases (if k=0 then none else p.map En.s)<;>(rw[gT,if_neg yD])
 |s::l,k,p,hk=>by
  have a:sP ⟨q,br k,s⟩=rD q s:=rfl;rw[fN,cO];have d:=uM q rest hr l (k+1) (some ⟨q,br k,s⟩) (λ_=>⟨_,rfl⟩);rw[if_neg yO,cu]at d;have h5:∀(z:S)(e:Int),e≠0->fE (z,e) (so none rest)=(z,e):=λz e f=>by unfold fE;rw[if_pos f]
  cases hf:rD q s with
  |false=>rw[mO hf,h5 _ _ yD];cases p<;>(rw[so,a,if_pos hf])
  |true=>
   rcases pE k with b|b
   ·subst b;rw[if_pos rfl,uO hf];cases p with
    |none=>rw[so,a,hf,if_neg yD];exact d
    |some y=>rw[so,a,hf,if_neg yD];simp only;rw[if_neg (λe=>absurd e.1 yS)];exact d
   ·obtain⟨y,rfl⟩:=hk b;rw[if_neg yO,cu,so,a,hf,if_neg yD];simp only;have c:(0:Int)<br k:=yL;cases hl:slt y.s s with
    |false=>
     rw[if_pos ⟨c,rfl⟩];by_cases e:y.s=s
     ·rw[if_pos e,uP hf e.symm,h5 _ _ yD]
     ·have J:slt s y.s=true:=by
       cases h3:slt s y.s with
       |true=>rfl
       |false=>exact absurd (mM hl h3) e
      rw[if_neg e,uQ hf (eh e) J,h5 _ _ yD]
    |true=>rw[if_neg yS,uN hf (λe=>by subst e;rw[fi]at hl;cases hl) (vV hl)];exact d
def xG:∀(l:List En),(∀x a,l=x::a->x.k=0)->∀p p',so p l=so p' l
 |[],_,p,p'=>by cases p<;>cases p'<;>rfl
 |x::l,h,p,p'=>by
  have h0:=h x l rfl
  have key:∀p,so p (x::l)=if sP x=false then(x.s,4)else so (some x) l:=by
   intro p;cases p with
   |none=>rfl
   |some y=>rw[so,if_neg (c:=0<x.k/\_) (λe=>by rw[h0]at e;exact absurd e.1 yD)]
  rw[key p,key p']
def lH(q:Int)(l:List S)(rest:List En)(hr:∀x a,rest=x::a->x.k=0):∀x a,fN q 0 l++rest=x::a->x.k=0:=by
 cases l with
 |nil=>exact hr
 |cons s l=>intro x a e;rw[fN,cO]at e;cases e;rfl
def Sk:rD 0=iT:=by funext s;unfold rD sP;rfl
def Sj:rD 1=ie:=by funext s;unfold rD sP;simp
def Si:rD 2=qy:=by funext s;unfold rD sP qy;simp
def Sh:rD 3=qy:=by funext s;unfold rD sP qy;simp
def Qp(i:IF):so none (rO i)=oH i:=by
 have b:∀x d,fN 3 0 (qL i)=x::d->x.k=0:=by have:=lH 3 (qL i) [] yS;simpa using this
 have a:=lH 2 (lK i) _ b;have c:=lH 1 (kL i) _ a;have e4:=uM 3 [] (xG [] yS) (qL i) 0 none yS;have e3:=uM 2 _ (xG _ b) (lK i) 0 none yS;have e2:=uM 1 _ (xG _ a) (kL i) 0 none yS;have e1:=uM 0 _ (xG _ c) (lh i) 0 none yS;rw[cA]at e4;unfold rO;rw[bN,bN,e1,e2,e3,e4];unfold oH;rw[Sk,Sj,Si,Sh,if_pos rfl];rfl
def E4(pre:List En)(x:En):Bool:=pre.any λy=>decide (x.q<3)&&decide (y.q<x.q)&&y.s==x.s
def Ap:List En->List En->S×Int
 |_,[]=>([],0)
 |pre,x::l=>if E4 pre x=true then(x.s,5)else Ap (pre++[x]) l
def Cg(q:Int)(f:En->Bool)(g:S->Bool)(h:∀k s,f ⟨q,k,s⟩=g s):∀(k:Nat)(l:List S),(fN q k l).any f=l.any g
 |_,[]=>rfl
 |k,s::l=>by rw[fN,kW,kW,h,Cg q f g h (k+1) l]
def rQ(q:Int)(g:S->Bool)(rest:List En):∀(l:List S)(k:Nat)(pre:List En),(∀s k,∀m:List S,∀j,E4 (pre++fN q j m) ⟨q,k,s⟩=g s)->Ap pre (fN q k l++rest)=fE (xh g l) (Ap (pre++fN q k l) rest)
 |[],k,pre,h=>by rw[fN,ep,cA];unfold fE;rw[xh,if_neg yD]
 |s::l,k,pre,h=>by
  have h0:=h s (br k) [] 0;rw[fN,cA]at h0;rw[fN,cO,Ap,h0,xh];by_cases a:g s=true
  ·rw[if_pos a,if_pos a];unfold fE;rw[if_pos yS]
  ·have b:=rQ q g rest l (k+1) (pre++[⟨q,br k,s⟩]) (λs' k' m j=>?_)
   ·rw[if_neg a,if_neg a,b,bN];rfl
   ·have e:pre++[⟨q,br k,s⟩]++fN q j m=pre++([⟨q,br k,s⟩]++fN q j m):=bN _ _ _;have h1:=h s' k' m j;unfold E4 at h1 ⊢;rw[jB,jB,kW,List.any_nil];rw[jB]at h1;simp only[Int.lt_irrefl,decide_false,fb,fH,mX];exact h1
def Cf(q:Int)(x:En)(a:¬q<x.q):∀(k:Nat)(l:List S),(fN q k l).any (λy=>decide (x.q<3)&&decide (y.q<x.q)&&y.s==x.s)=false:=by intro k l;rw[Cg q _ (λ_=>false) (λk s=>by simp[a])];rw[gS];simp
def Kj(q:Int)(x:En)(b:q<x.q)(h3:x.q<3):∀(k:Nat)(l:List S),(fN q k l).any (λy=>decide (x.q<3)&&decide (y.q<x.q)&&y.s==x.s)=l.contains x.s:=by
 intro k l;rw[Cg q _ (λs=>s==x.s) (λk s=>by simp[b,h3]),cm,dZ,dr];constructor
 ·rintro⟨y,a,e⟩;rw[<- eq_of_beq e];exact a
 ·intro h;exact⟨_,h,yS⟩
def LA{l:List S}:xh (λ_=>false) l=([],0):=by
 induction l with
 |nil=>rfl
 |cons s l a=>rw[xh,if_neg yD];exact a
def Oy(i:IF):Ap [] (rO i)=rR i:=by
 have e4:∀pre:List En,Ap pre (fN 3 0 (qL i))=([],0):=by intro pre;have:=rQ 3 (λ_=>false) [] (qL i) 0 pre (λs k m j=>by unfold E4;rw[gS];simp);rw[cA]at this;rw[this,LA];rfl
 have z:∀a:S×Int,a.2=0->a.1=[]->fE a ([],0)=a:=by rintro⟨a,b⟩ h1 J;simp only at h1 J;subst h1 J;rfl
 unfold rO;rw[bN,bN];rw[rQ 0 (λ_=>false) _ (lh i) 0 [] (λs k m j=>by unfold E4;rw[ep];exact Cf 0 _ yS j m)];rw[rQ 1 (lh i).contains _ (kL i) 0 _ (λs k m j=>by unfold E4;rw[ep,jB,Kj 0 ⟨1,k,s⟩ yS yS,Cf 1 ⟨1,k,s⟩ yS,mX])];rw[rQ 2 (λs=>(lh i).contains s||(kL i).contains s) _ (lK i) 0 _ (λs k m j=>by unfold E4;rw[ep,jB,jB,Kj 0 ⟨2,k,s⟩ yS yS,Kj 1 ⟨2,k,s⟩ yS yS,Cf 2 ⟨2,k,s⟩ yS,mX])];rw[e4,LA];unfold rR
 have e5:∀l g,fE (xh g l) ([],0)=xh g l:=by
  intro l g;induction l with
  |nil=>rfl
  |cons s l c=>
   rw[xh];split
   ·rfl
   ·exact c
 rw[e5];rfl
section
mutual
def QD:Ty->Ty->Bool| .mk k m n ar fl,.mk k' m' n' Ts S5=>decide (k=k')&&(m==m')&&(n==n')&&GO ar Ts&&GP fl S5
def VZ:Fe->Fe->Bool| .mk s t b,.mk s' t' b'=>(s==s')&&QD t t'&&(b==b')
def GO:List Ty->List Ty->Bool|[],[]=>true|t::l,u::k=>QD t u&&GO l k|_,_=>false
def GP:List Fe->List Fe->Bool|[],[]=>true|t::l,u::k=>VZ t u&&GP l k|_,_=>false
end
mutual
def qf:∀t u:Ty,QD t u=true↔t=u
 | .mk k m n ar fl,.mk k' m' n' Ts S5=>by rw[QD];simp only[bI,decide_eq_true_eq,beq_iff_eq,ET ar Ts,EW fl S5,Ty.mk.injEq,and_assoc]
def Oq:∀t u:Fe,VZ t u=true↔t=u
 | .mk s t b,.mk s' t' b'=>by rw[VZ];simp only[bI,beq_iff_eq,qf t t',Fe.mk.injEq,and_assoc]
def ET:∀l k:List Ty,GO l k=true↔l=k
 |[],[]=>by simp[GO]
 |[],_::_=>by simp[GO]
 |_::_,[]=>by simp[GO]
 |t::l,u::k=>by rw[GO];simp only[bI,qf t u,ET l k,kr]
def EW:∀l k:List Fe,GP l k=true↔l=k
 |[],[]=>by simp[GP]
 |[],_::_=>by simp[GP]
 |_::_,[]=>by simp[GP]
 |t::l,u::k=>by rw[GP];simp only[bI,Oq t u,EW l k,kr]
end
variable {C:List Ty}{j:Jm}{env:List IF}{ctx:List Pm}{s t:Ty}{b:Bool}{d d':Jm->Mem->Option (Bool×Mem)}
def Ei(l:List Jm)(j:Jm):Bool:=l.any λx=>QD x.1 j.1&&QD x.2 j.2
def uU{l:List Jm}:Ei l j=true↔j∈l:=by
 unfold Ei;rw[dZ];constructor
 ·rintro⟨x,a,h⟩;rw[bI,qf,qf]at h;have:x=j:=dR h.1 h.2;exact this▸a
 ·intro h;exact⟨j,h,by rw[bI,qf,qf];exact⟨rfl,rfl⟩⟩
def Oz(a:Ty->Ty->Nat->Option (List Jm)):Nat->Jm->Mem->Option (Bool×Mem)
 |0,_,_=>none
 |n+1,j,m=>match Ei m.2 j with
  |true=>some (false,m)
  |false=>match Ei m.1 j with
   |true=>some (true,m)
   |false=>gk (Oz a n) (a j.1 j.2) j m.1 [1,2,3,4,5] m.2
def Ic(c:Ty->Ty->Nat->Option (List Jm)):∀n,lC c n=Oz c n
 |0=>by funext j m;rfl
 |n+1=>by
  funext j m;rw[lC,Oz,Ic c n];by_cases hb:j∈m.2
  ·rw[if_pos hb,uU.2 hb]
  ·have e1:Ei m.2 j=false:=by
    cases h:Ei m.2 j with
    |false=>rfl
    |true=>exact absurd (uU.1 h) hb
   rw[if_neg hb,e1];by_cases a:j∈m.1
   ·rw[if_pos a,uU.2 a]
   ·have e2:Ei m.1 j=false:=by
     cases h:Ei m.1 j with
     |false=>rfl
     |true=>exact absurd (uU.1 h) a
    rw[if_neg a,e2]
def nP(n:Nat)(h:(Oz (kU env ctx) n (s,t) ([],[])).map (·.1)=some b):cK.uc env ctx C s t b:=by
 rw[<- Ic]at h;cases hd:lC (kU env ctx) n (s,t) ([],[])with
 |none=>rw[hd]at h;cases h
 |some q=>rw[hd]at h;obtain⟨q0,m⟩:=q;cases h;exact⟨n,m,hd⟩
def A1(h:∀j m r,d j m=some r->d' j m=some r):∀l m r,mN d l m=some r->mN d' l m=some r
 |[],m,r,e=>by rw[mN]at e ⊢;exact e
 |j::l,m,r,e=>by
  rw[mN]at e ⊢;cases hd:d j m with
  |none=>rw[hd]at e;cases e
  |some q=>
   rw[hd]at e;rw[h j m q hd];obtain⟨a,m'⟩:=q;cases a with
   |true=>exact A1 h l m' r e
   |false=>exact e
def re(h:∀j m r,d j m=some r->d' j m=some r){f:Nat->Option (List Jm)}{g:List Jm}:∀a b r,gk d f j g a b=some r->gk d' f j g a b=some r
 |[],b,r,e=>by rw[gk]at e ⊢;exact e
 |k::a,b,r,e=>by
  rw[gk]at e ⊢;cases i:f k with
  |none=>rw[i]at e;exact re h a b r e
  |some l=>
   rw[i]at e;simp only at e ⊢;cases c:mN d l (g++[j],b)with
   |none=>rw[c]at e;cases e
   |some q=>
    rw[c]at e;rw[A1 h l _ q c];obtain⟨n,m'⟩:=q;cases n with
    |true=>exact e
    |false=>exact re h a m'.2 r e
def BI(a:Ty->Ty->Nat->Option (List Jm)):∀n j m r,lC a n j m=some r->lC a (n+1) j m=some r
 |0,j,m,r,e=>by rw[lC]at e;cases e
 |n+1,j,m,r,e=>by
  rw[lC]at e ⊢;by_cases hb:j∈m.2
  ·rw[if_pos hb]at e ⊢;exact e
  rw[if_neg hb]at e ⊢;by_cases c:j∈m.1
  ·rw[if_pos c]at e ⊢;exact e
  rw[if_neg c]at e ⊢;exact re (BI a n) _ _ _ e
def Ib(a:Ty->Ty->Nat->Option (List Jm)){n k:Nat}(h:n<=k){m:Mem}{r:Bool×Mem}(e:lC a n j m=some r):lC a k j m=some r:=by
 induction h with
 |refl=>exact e
 |step _ c=>exact BI a _ _ _ _ c
def OW{C':List Ty}{a:Bool}(h1:cK.uc env ctx C s t a)(h2:cK.uc env ctx C' s t b):a=b:=by obtain⟨n,m,e1⟩:=h1;obtain⟨n',m',e2⟩:=h2;have f1:=Ib _ (Nat.le_max_left n n') e1;have f2:=Ib _ (Nat.le_max_right n n') e2;rw[f1]at f2;cases f2;rfl
def Gz(h:cK.uc env ctx C s t b):H4 env ctx s t=b:=by have hex:∃b,cK.uc env ctx [] s t b:=⟨b,h⟩;unfold H4;rw[dif_pos hex];exact OW hex.choose_spec h
def eA:S:=[97,47,118,49]
def oL:Ty:=.mk 2 [] [] [] []
def Pz:Ty:=.mk 4 [] [] [] []
def qh(n:S):Ty:=.mk 10 eA n [] []
def QK(l:List Fe):Ty:=.mk 6 [] [] [] l
def EZ(t:Ty):Ty:=QK [.mk [110,101,120,116] t false]
def mU:Ty:=EZ (qh [76])
def nY:Ty:=EZ (EZ (qh [77]))
def jI:List IF:=[⟨eA,[⟨[76],[],mU,mU⟩,⟨[77],[],nY,nY⟩,⟨[78],[],oL,Ty.zero⟩],[],[],[]⟩]
def BD:Ty:=QK [.mk [97] oL false,.mk [98] Pz false]
def BC:Ty:=QK [.mk [97] oL false]
def eF:Ty:=.mk 8 [] [] [oL] [.mk [97] Ty.zero false,.mk [98] oL true]
def eG:Ty:=.mk 8 [] [] [Ty.zero] [.mk [97] oL false]
def XN:cK.uc jI [] C BD BC true:=nP 30 yK
def XM:cK.uc jI [] C BC BD false:=nP 30 yK
def Y9:cK.uc jI [] C eF eG true:=nP 30 yK
def Y8:cK.uc jI [] C eG eF false:=nP 30 yK
def Y7:cK.uc jI [] C oL (qh [78]) true:=nP 30 yK
def Y6:cK.uc jI [] C (qh [78]) oL false:=nP 30 yK
def Y5:cK.uc jI [] C (qh [76]) (qh [77]) true:=nP 60 yK
def Y4:cK.uc jI [] C (qh [77]) (qh [76]) true:=nP 60 yK
def Zd:H4 jI [] mU mU=true:=Gz (C:=[]) (nP 60 yK)
def Zc:H4 jI [] nY nY=true:=Gz (C:=[]) (nP 60 yK)
def Zb:H4 jI [] oL Ty.zero=true:=Gz (C:=[]) (nP 60 yK)
def V1:qZ jI jI=none:=by unfold jI;rw[qZ];show (match qY jI eA [⟨[76],[],mU,mU⟩,⟨[77],[],nY,nY⟩,⟨[78],[],oL,Ty.zero⟩]with|some r=>some r|none=>qZ jI [])=none;rw[uu Zd,uu Zc,uu Zb,qY,qZ]
end
def eI:IF:=⟨eA,[⟨[76],[],mU,mU⟩,⟨[77],[],nY,nY⟩,⟨[78],[],oL,Ty.zero⟩],[],[],[]⟩
def CR:jI=[eI]:=rfl
def e1:rF eI=0:=by kernel_rfl
def e2:oH eI=([],0):=by kernel_rfl
def e3:rR eI=([],0):=by kernel_rfl
def e4:nC eI=([],0):=by kernel_rfl
def e5:nu [eI] [] mU=0:=by kernel_rfl
def e6:nu [eI] [] nY=0:=by kernel_rfl
def e7:nu [eI] [] oL=0:=by kernel_rfl
def e8:nu [eI] [] Ty.zero=0:=by kernel_rfl
def e9:rB eI=[]:=by kernel_rfl
def gD:jF eI [[76]] mU=true:=by kernel_rfl
def nZ:jF eI [[77]] nY=true:=by kernel_rfl
def Zi:nW eI [[76]] [] mU=true:=by kernel_rfl
def Zh:nW eI [[77]] [] nY=true:=by kernel_rfl
def S8:jF eI [] oL=true:=by kernel_rfl
def Zg:jF eI [] Ty.zero=true:=by kernel_rfl
def Zf:nW eI [] [] oL=true:=by kernel_rfl
def Ze:nW eI [] [] Ty.zero=true:=by kernel_rfl
def XP:iz eI [76]=[(eA,[76]),(eA,[76])]:=by kernel_rfl
def Rv:iz eI [78]=[]:=by kernel_rfl
def dL{e:S}:qj eI [76] e↔e=[76]:=by
 have hl:fu eI eA [76]=some [76]:=by kernel_rfl
 constructor
 ·rintro⟨u,hu,h⟩;have hu:u∈iz eI [76]:=hu;rw[XP]at hu;simp at hu;subst hu;have h:fu eI eA [76]=some e:=h;rw[hl]at h;cases h;rfl
 ·rintro rfl;exact⟨(eA,[76]),by show (eA,([76]:S))∈iz eI [76];rw[XP];simp,hl⟩
def XO:iz eI [77]=[(eA,[77]),(eA,[77])]:=by kernel_rfl
def dM{e:S}:qj eI [77] e↔e=[77]:=by
 have hl:fu eI eA [77]=some [77]:=by kernel_rfl
 constructor
 ·rintro⟨u,hu,h⟩;have hu:u∈iz eI [77]:=hu;rw[XO]at hu;simp at hu;subst hu;have h:fu eI eA [77]=some e:=h;rw[hl]at h;cases h;rfl
 ·rintro rfl;exact⟨(eA,[77]),by show (eA,([77]:S))∈iz eI [77];rw[XO];simp,hl⟩
def dN{e:S}:¬qj eI [78] e:=by rintro⟨u,hu,h⟩;have hu:u∈iz eI [78]:=hu;rw[Rv]at hu;simp at hu
def rL{s:S}(h:oP eI [76] s):s=[76]:=by
 have key:∀a b,oP eI a b->a=[76]->b=[76]:=by
  intro a b h;induction h with
  |one h=>rintro rfl;exact dL.1 h
  |more _ k c=>intro e;have:=c e;subst this;exact dL.1 k
 exact key _ _ h rfl
def rM{s:S}(h:oP eI [77] s):s=[77]:=by
 have key:∀a b,oP eI a b->a=[77]->b=[77]:=by
  intro a b h;induction h with
  |one h=>rintro rfl;exact dM.1 h
  |more _ k c=>intro e;have:=c e;subst this;exact dM.1 k
 exact key _ _ h rfl
def rN{s:S}(h:oP eI [78] s):False:=by
 have key:∀a b,oP eI a b->a=[78]->False:=by
  intro a b h;induction h with
  |one h=>rintro rfl;exact dN h
  |more _ k c=>exact c
 exact key _ _ h rfl
def gL:GM eI [76] [[76]]:=⟨λs=>⟨λh=>by simp at h;subst h;exact⟨.one (dL.2 rfl),.one (dL.2 rfl)⟩,λh=>by rw[rL h.1];simp⟩,yS,yS⟩
def gM:GM eI [77] [[77]]:=⟨λs=>⟨λh=>by simp at h;subst h;exact⟨.one (dM.2 rfl),.one (dM.2 rfl)⟩,λh=>by rw[rM h.1];simp⟩,yS,yS⟩
def gN:GM eI [78] []:=⟨λs=>⟨λh=>yE h,λh=>(rN h.1).elim⟩,yS,yS⟩
def Ye:kZ eI ⟨[76],[],mU,mU⟩=true:=by unfold kZ;rw[show EO eI (TE.name ⟨[76],[],mU,mU⟩)=[[76]]from gL.EO.symm];rw[gD,Zi];rw[if_neg (by rw[show (([[76]]:List S).all λs=>((ox eI s).getD TE.zero).params.length==(TE.params ⟨[76],[],mU,mU⟩).length)=true by kernel_rfl];decide)];rfl
def Yd:kZ eI ⟨[77],[],nY,nY⟩=true:=by unfold kZ;rw[show EO eI (TE.name ⟨[77],[],nY,nY⟩)=[[77]]from gM.EO.symm];rw[nZ,Zh];rw[if_neg (by rw[show (([[77]]:List S).all λs=>((ox eI s).getD TE.zero).params.length==(TE.params ⟨[77],[],nY,nY⟩).length)=true by kernel_rfl];decide)];rfl
def Yc:kZ eI ⟨[78],[],oL,Ty.zero⟩=true:=by unfold kZ;rw[show EO eI (TE.name ⟨[78],[],oL,Ty.zero⟩)=[]from gN.EO.symm];rw[S8,Zg,Zf,Ze];rw[if_neg yD];rfl
def UC{x:TE}{a b:Ty}{n:S}(c:x=⟨n,[],a,b⟩)(ha:nu [eI] [] a=0)(hb:nu [eI] [] b=0)(hs:kZ eI x=true):nU [eI] eI x=0:=by subst c;unfold nU;rw[show ij jW (TE.params ⟨n,[],a,b⟩)=0 from rfl,if_neg yD];rw[show fj [nu [eI] ((TE.params ⟨n,[],a,b⟩).map Pm.name) a,nu [eI] ((TE.params ⟨n,[],a,b⟩).map Pm.name) b]=0 by rw[show (TE.params ⟨n,[],a,b⟩).map Pm.name=[]from rfl,ha,hb];rfl,if_neg yD];rw[show iU [eI] a [] (TE.params ⟨n,[],a,b⟩)=true from rfl,show iU [eI] b [] (TE.params ⟨n,[],a,b⟩)=true from rfl,hs];rfl
def Za:iA [eI] eA=([],0):=by
 show lN [eI] eI=([],0);unfold lN;rw[e1,e2,e3,e4];have h3:ka [eI] eI=([],0):=by unfold ka;rw[show gQ (nU [eI] eI) TE.name eI.types=([],0)by show gQ (nU [eI] eI) TE.name [⟨[76],[],mU,mU⟩,⟨[77],[],nY,nY⟩,⟨[78],[],oL,Ty.zero⟩]=([],0);rw[gQ,UC rfl e5 e5 Ye,gQ,UC rfl e6 e6 Yd,gQ,UC rfl e7 e8 Yc];rfl];rfl
 rw[h3];rfl
def S7:nL jI=([],0):=by
 rw[CR];unfold nL;rw[if_neg yD];have h1:mB [eI] none [eI]=([],0):=by rw[mB,show iA [eI] eI.path=([],0)from Za];rfl
 have J:gQ (Gs [eI]) IF.path [eI]=([],0):=by
  refine zG λx c=>?_;simp at c;subst c;unfold Gs;rw[if_neg];intro h
  have b:∀s,zw [eI] s=[]:=by
   intro s;have:=zv [] eI s;rw[ep]at this;rw[this]
   have d:pd eI=[]:=by
    cases e:pd eI with
    |nil=>rfl
    |cons a l=>exact absurd (za (x:=eI) (s:=a) (by rw[e];simp)) (by rw[e9];simp)
   split
   ·exact d
   ·rfl
  cases h with
  |one h=>rw[b]at h;simp at h
  |more _ h=>rw[b]at h;simp at h
 rw[h1,J];rfl
def QJ:pM jI=([],[],0):=by rw[AK (by rw[S7]),V1];rfl
def le_size:∀t:Ty,t.size<=4294967295->Ty.le 4294967295 t:=by
 refine Ty.fC (P:=λt=>t.size<=4294967295->Ty.le 4294967295 t) λt a h=>?_;have h1:=km t;have J:t.dP.length=t.ar.length+t.fl.length:=by simp[Ty.dP]
 refine .mk _ yO yO (λu hu=>a u (nN hu) ?_) (λf hf=>a f.t (CG hf) ?_)
 ·have:=uw (nN hu);omega
 ·have:=uw (CG hf);omega
def V3(u:Ty):Bool:=decide ((u.k=5\/u.k=8->u.ar.length=1)/\(u.k=6\/u.k=7->u.ar.length=0/\∀f∈u.fl,f.b=false)/\(u.fl.map Fe.s).Nodup/\(0<=u.k/\u.k<=10)/\u.m.length<=1048576/\u.n.length<=1048576/\∀x∈u.fl,x.s.length<=1048576)
def GX{t:Ty}(hs:t.size<=200)(h:(t.all.all V3)=true):Ct t:=by
 rw[dk]at h;refine⟨le_size t yO,λu hu=>?_,λu hu=>?_⟩
 ·have:=of_decide_eq_true (h u hu);exact⟨this.2.2.2.2.1,this.2.2.2.2.2.1,this.2.2.2.2.2.2⟩
 ·have:=of_decide_eq_true (h u hu);exact⟨this.1,this.2.1,this.2.2.1,this.2.2.2.1⟩
def eC:List Ty:=[BD,BC,eF,eG,oL,Pz,Ty.zero,qh [76],qh [77],qh [78],mU,nY,EZ (qh [77])]
def I4(l:List Ty)(t:Ty):Bool:=l.any λx=>QD x t
def uS{l:List Ty}{t:Ty}(h:I4 l t=true):t∈l:=by unfold I4 at h;rw[dZ]at h;obtain⟨x,a,e⟩:=h;rw[qf]at e;exact e▸a
def L2:BV jI [] eC:=by
 have hs:∀t∈eC,t.size<=200:=by have:(eC.all λt=>decide (t.size<=200))=true:=yK;intro t a;exact of_decide_eq_true (dk.1 this t a)
 refine⟨yD,λt a=>GX (hs t a) ?_,hs,λt a u hu=>?_,λt a e=>?_,yS⟩
 ·have:(eC.all λt=>t.all.all V3)=true:=yK;exact dk.1 this t a
 ·have:(eC.all λt=>t.dP.all (I4 eC))=true:=yK;exact uS (dk.1 (dk.1 this t a) u hu)
 ·have:(eC.all λt=>I4 eC (dp jI t).1&&I4 eC (dp jI t).2.1)=true:=yK;have:=dk.1 this t a;rw[bI]at this;exact⟨uS this.1,uS this.2⟩
def V0:Il jI (mo jI []) eC:=by refine⟨yD,L2.sz,λt a=>?_,L2.dP,L2.fU⟩;have:((mo jI []).all (I4 eC))=true:=yK;exact uS (dk.1 this t a)
end Go.VC
