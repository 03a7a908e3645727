/- Part 5 of the common texts. -/
import Derived.Test.YtefbdgenddbehaaGreatDoorPart3
set_option linter.all false
set_option maxRecDepth 100000
set_option maxHeartbeats 16000000
open And renaming intro→bw
open Bool renaming and_eq_true→bI,and_false→fb,and_true→qI,eq_iff_iff→cm,false_eq_true→cC,false_or→FG,not_eq_false'→oS,not_eq_true'→fX,or_eq_true→gh,or_false→mX,or_true→ow,true_and→fB,true_or→xR
open Int renaming le_refl→vM,natCast_nonneg→cW,ofNat→br,ofNat_eq_natCast→bz,ofNat_lt→jy
open List renaming all_append→nS,all_eq_false→qo,all_eq_true→dk,any_eq_false→gS,any_eq_true→dZ,append_assoc→bN,cons_append→cO,cons_prefix_cons→tj,contains_iff_mem→dr,drop_succ_cons→vQ,drop_zero→Dl,ext_getElem→Ad,getD→cj,getElem?_eq_getElem→bB,getElem_mem→bx,getLast?_cons→M8,getLast?_eq_getElem?→kG,infix_cons_iff→MZ,isPrefixOf_iff_prefix→Dk,length→jt,length_cons→bS,length_map→bQ,length_pos_iff→ej,mem_append→bJ,mem_cons→bP,not_mem_nil→mK,take_length→bF
open Nat renaming le_refl→ca,le_trans→bR,zero_le→bD
open Ne renaming symm→eh
open Or renaming inl→bG
namespace Go.VC
def Rq:List S:=[[97,110,100],[97,110,121],[97,115],[98,111,111,108],[100,101,112,114,101,99,97,116,101,100],[101,108,115,101],[101,120,112,111,114,116],[102,97,108,115,101],[102,110],[102,111,108,100],[102,114,111,109],[105,102],[105,109,112,111,114,116],[105,110],[105,110,116],[108,101,110,103,116,104],[108,101,116],[108,105,115,116],[109,97,116,99,104],[109,111,100,117,108,101],[110,111,110,101],[110,111,116],[111,114],[116,101,120,116],[116,104,101,110],[116,114,117,101],[116,121,112,101],[117,115,101]]
def EE:List S->S
 |[]=>[]
 |w::l=>w++32::EE l
def N8:Sg=32::EE Rq:=yD
def Ea(s sub:S)(i:Nat)(h:i<=s.length):Lib.occAt s sub i=sub.isPrefixOf (s.drop i):=by
 induction s generalizing i with
 |nil=>simp at h;subst h;simp[Lib.occAt]
 |cons c l a=>
  cases i with
  |zero=>simp[Lib.occAt]
  |succ i=>simp at h;simpa[Lib.occAt]using a i h
def zP(s sub:S):Lib.contains s sub=true↔sub <:+: s:=by
 unfold Lib.contains;rw[decide_eq_true_eq];rcases Lib.index_spec s sub with⟨h1,J⟩|⟨i,h1,J,h3,_⟩
 ·rw[h1];constructor
  ·intro h;omega
  ·rintro⟨a,b,rfl⟩;have:=J a.length yS;rw[Ea _ _ _ yS,bN,List.drop_left]at this;have h4:sub.isPrefixOf (sub++b)=true:=Dk.2 (List.prefix_append _ _);rw[h4]at this;cases this
 ·rw[h1];refine⟨λ_=>?_,λ_=>yO⟩;rw[Ea _ _ _ J,Dk]at h3;exact h3.isInfix.trans (List.drop_suffix i s).isInfix
def D3:∀{s w r:S},(∀c∈s,c≠32)->(∀c∈w,c≠32)->(s++[32] <+: w++32::r↔s=w)
 |[],[],r,_,_=>yS
 |[],y::w,r,_,hw=>by have:=hw y yS;simp[eh this]
 |x::s,[],r,hs,_=>by have:=hs x yS;simp[this]
 |x::s,y::w,r,hs,hw=>by rw[cO,cO,tj,D3 (λc hc=>hs c (by simp[hc])) (λc hc=>hw c (by simp[hc]))];simp
def AV{x r:S}:∀{w:S},(∀c∈w,c≠32)->32::x <:+: w++r->32::x <:+: r
 |[],_,h=>h
 |y::w,hw,h=>by
  rw[cO,MZ]at h;rcases h with h|h
  ·rw[tj]at h;exact absurd h.1.symm (hw y yS)
  ·exact AV (λc hc=>hw c (by simp[hc])) h
def Bq{s:S}(hs:∀c∈s,c≠32):∀{ws:List S},(∀w∈ws,∀c∈w,c≠32)->((32::s++[32]) <:+: 32::EE ws↔s∈ws)
 |[],_=>by simp only[EE,mK,iff_false];intro h;have:=h.length_le;simp at this
 |w::ws,hw=>by
  have a:=Bq hs (ws:=ws) λw h=>hw w (by simp[h]);rw[EE,MZ,cO,tj,D3 hs (hw w yS),bP];constructor
  ·rintro(⟨_,h⟩|h)
   ·exact .inl h
   ·exact .inr (a.1 (AV (hw w yS) h))
  ·rintro(h|h)
   ·exact .inl ⟨rfl,h⟩
   ·exact .inr ((a.2 h).trans (List.suffix_append _ _).isInfix)
def Nc{s:S}(h:jJ n5 s=true):∀c∈s,c≠32:=by intro c hc e;subst e;have:=dk.1 h _ hc;revert this;decide
def N9{s:S}(h:jJ n5 s=true):Jh s=Rq.contains s:=by
 have h1:Jh s=true↔s∈Rq:=by unfold Jh;rw[zP,N8];exact Bq (Nc h) yD
 cases hk:Jh s with
 |true=>exact(dr.2 (h1.1 hk)).symm
 |false=>
  cases hc:Rq.contains s with
  |false=>rfl
  |true=>rw[h1.2 (dr.1 hc)]at hk;cases hk
end Go.VC
namespace Go.VC.cK
open Go Go.VC Go.Proofs
section
variable {K:PV->List Ob->Prop}{s:S}{c:Int}
def Q7(h:∀b,b=pS c->K (.bool b) []):FT 197 [] [.int .u8 c] K:=by
 refine en (cf 9) Tryz.func197 λA C L X=>?_;cbv;repeat' (first|apply bw|exact zf|(intro J;cbv)|apply bG)
 all_goals (refine h _ ?_;obtain rfl:=X.a;simp only[SD]at *;simp[pS,J])
def Ug(h:∀b,b=Jz c->K (.bool b) []):FT 101 [] [.int .u8 c] K:=by
 refine en (cf 9) Tryz.func101 λA C L X=>?_;cbv;repeat' (first|apply bw|exact zf|(intro J;cbv)|apply bG)
 all_goals (refine h _ ?_;obtain rfl:=X.a;simp only[SD]at *;simp[Jz,J])
def Q6(h:∀b,b=lQ c->K (.bool b) []):FT 200 [] [.int .u8 c] K:=by
 refine en (cf 9) Tryz.func200 λA C L X=>?_;cbv;repeat' (first|apply bw|exact zf|(intro J;cbv)|apply bG)
 all_goals (refine h _ ?_;obtain rfl:=X.a;simp only[SD]at *;simp[lQ,J])
def Xd(h:∀b,b=n5 c->K (.bool b) []):FT 148 [] [.int .u8 c] K:=by
 refine en (cf 17) Tryz.func148 λA C L X=>?_;cbv;refine X.call (Q7 λb1 a=>?_);cbv;repeat' (first|apply bw|exact zf|(intro J;cbv)|apply bG|(refine X.call (Ug λb2 e=>?_);cbv)|(refine X.call (Q6 λf d=>?_);cbv))
 all_goals (refine h _ ?_;obtain rfl:=X.a;simp only[SD,fR]at *;simp_all[n5])
def Uf(hs:s.length<=4294967295)(h:∀b,b=jJ n5 s->K (.bool b) []):FT 102 [] [.str s] K:=by
 refine en (cf 15) Tryz.func102 λA C L X=>?_;obtain⟨n,f⟩:∃n,n=s.length:=⟨_,rfl⟩;have a:A.dz s=br n:=by rw[X.a,f];rfl
 cbv;refine lu X (λi=>i<=n/\jJ n5 (s.take i)=true) (λi=>n-i) 0 ⟨bD _,rfl⟩ (λ(i:Nat)=>[(3,.int .i64 i)]) ?_;rintro i ⟨j,ha⟩;cbv;constructor<;>intro h1
 ·have h5:i<s.length:=by obtain rfl:=X.a;simp only[SD]at h1 a;omega
  have g:A.idx (br i) (A.dz s):=by rw[a,X.a,f];exact⟨cW _,jy.2 h5⟩
  have e:=jX X.a h5;have d:A.iZ s (br i)=(s[i].toNat:Int):=by rw[X.a];simp[Std,ec,cj,h5]
  have Y:=fz X.a;refine p1 ?_;refine X.call (Xd λb hb=>?_);have hb:b=n5 (A.iZ s (br i)):=hb;rw[d]at hb;cbv;repeat' (first|apply bw|exact zf|(intro J;cbv)|apply bG)
  any_goals exact e
  ·exact h _ (by have J:A.not b=true:=yA;have J:=(Y b).symm.trans J;rw[tT h5];rw[<- hb];simpa using J)
  ·refine⟨i+1,⟨?_,?_⟩,?_,?_⟩
   ·omega
   ·exact wI h5 ha (by have J:A.not b=false:=yA;have J:=(Y b).symm.trans J;rw[<- hb];simpa using J)
   ·omega
   exact yc
 ·have h5:i=n:=by obtain rfl:=X.a;simp only[SD]at h1 a;omega
  cbv;exact h _ (by rw[h5,f,bF]at ha;exact ha.symm)
def Ue{l:List S}{d:D}(hd:d=bH encS l)(hl:l.length<=4294967295)
 (h:∀b,b=l.contains s->K (.bool b) []):FT 104 [] [.lst 9 d,.str s] K:=by
 refine en (cf 18) Tryz.func104 λA C L X=>?_;obtain⟨f,k,a⟩:=lenOf hd;cbv;refine lu X (λi=>i<=f/\∀y∈l.take i,y≠s) (λi=>f-i) 0 ⟨bD _,yS⟩ (λ(i:Nat)=>[(5,.int .i64 i)]) ?_;rintro i ⟨p,ha⟩;cbv;constructor<;>intro h1
 ·have h5:i<l.length:=lY X.a a h1;have o:=jR X.a hd h5;have n:=iX X.a hd h5;have m:=jX X.a h5;have j:A.seq (A.bL (A.cell d (br i) 0)) s=(l[i]==s):=by rw[o,X.a];rfl
  cbv;repeat' (first|apply bw|exact zf|(intro J;cbv)|apply bG)
  any_goals exact n
  any_goals exact m
  ·have e:=j.symm.trans J;refine h _ ?_;rw[<- (by simpa using e:l[i]=s)];exact(dr.2 (bx h5)).symm
  ·have e:(l[i]==s)=false:=j.symm.trans (by assumption);refine⟨i+1,⟨yO,?_⟩,yO,?_⟩
   ·rw[bX h5];intro y g;rcases bJ.1 g with g|g
    ·exact ha y g
    ·simp at g;subst g;simpa using e
   exact yc
 ·have h5:i=f:=gY X.a a h1;subst h5;rw[k,bF]at ha;cbv;refine h _ ?_;cases hc:l.contains s with
  |false=>exact hc.symm
  |true=>exact absurd rfl (ha s (dr.1 hc))
def WM(h:∀r,r=bH encS Rq->K (.lst 9 r) []):FT 198 [] [] K:=by refine en (cf 2) Tryz.func198 λA C L X=>?_;have q:=h (A.lit (Rq.map encS)) yX;cbv;exact q
def yV{A:qC}(ha:A=Std)(h:A.le 1 (A.dz s)=true):A.idx 0 (A.dz s):=by subst ha;have J:=of_decide_eq_true (p:=(1:Int)<=(s.length:Int)) h;exact⟨vM 0,by rw[fJ];omega⟩
def KY:(s != [])=decide ((1:Int)<=(s.length:Int)):=by
 cases s with
 |nil=>rfl
 |cons c l=>rw[bS,decide_eq_true yO];rfl
def TD(hs:s.length<=4294967295)(h:∀b,b=iT s->K (.bool b) []):FT 61 [] [.str s] K:=by
 refine en (cf 20) Tryz.func61 λA C L X=>?_;have d:=λh=>yV X.a (s:=s) h;have a:=KY (s:=s);cbv;repeat' (first|apply bw|exact zf|(intro J;cbv)|apply bG|(refine X.call (Ug λb1 e=>?_);cbv)|(refine X.call (Uf hs λb2 f=>?_);cbv))
 any_goals exact d yA
 all_goals (refine h _ ?_;obtain rfl:=X.a;unfold iT;rw[a];simp only[jo,SD]at* <;>simp_all<;>omega)
def JK(hs:s.length<=4294967295)(h:∀b,b=ie s->K (.bool b) []):FT 143 [] [.str s] K:=by
 refine en (cf 26) Tryz.func143 λA C L X=>?_;have d:=λh=>yV X.a (s:=s) h;have a:=KY (s:=s);have hk:=λh=>N9 (s:=s) h;cbv;repeat' (first|apply bw|exact zf|(intro J;cbv)|apply bG|(refine X.call (Q7 λb1 e=>?_);cbv)|(refine X.call (Uf hs λb2 g=>?_);cbv)|(refine X.call (WM λr hr=>?_);cbv)|(refine X.call (Ue hr yD λi f=>?_);cbv))
 any_goals exact d yA
 all_goals (refine h _ ?_;obtain rfl:=X.a;unfold ie;rw[a];simp only[jo,SD]at* <;>simp_all<;>omega)
end
end Go.VC.cK
namespace Go.VC
section
variable {s:S}{i:Nat}{a b:UInt8}
def sd(c:UInt8)(l:S):gi (c::l)=if c=47 then []::gi l else match gi l with|[]=>[[c]]|x::xs=>(c::x)::xs:=by rw[gi];rfl
def yi:∀s:S,gi (s++[47])=gi s++[[]]
 |[]=>yD
 |c::l=>by
  rw[cO,sd,sd,yi l];split
  ·rfl
  ·cases h:gi l with
   |nil=>exact absurd h (uz l)
   |cons x xs=>rfl
def AY{c:UInt8}(hc:c≠47):∀s:S,gi (s++[c])=(gi s).dropLast++[(gi s).getLast?.getD []++[c]]
 |[]=>by simp[gi,hc]
 |a::l=>by
  rw[cO,sd,sd,AY hc l];cases h:gi l with
  |nil=>exact absurd h (uz l)
  |cons x xs=>
   split
   ·simp[M8]
   ·cases xs with
    |nil=>rfl
    |cons y ys=>simp[M8]
def Kz{α:Type}{l:List α}{y:α}(h:l≠[]):l.set (l.length-1) y=l.dropLast++[y]:=by
 have c:=ej.2 h;apply Ad
 ·simp;omega
 ·intro i h1 J;simp at h1 J;rw[List.getElem_set,List.getElem_append];simp only[List.length_dropLast,List.getElem_dropLast];by_cases e:i<l.length-1
  ·rw[dif_pos e,if_neg yO]
  ·rw[dif_neg e,if_pos yO];simp
def vT(h:i<s.length):s.take (i+1)=s.take i++[s[i]]:=bX h
def Cm{A:qC}(ha:A=Std)(h:i<s.length):A.iZ s (br i)=(s[i].toNat:Int):=by rw[ha];simp[Std,ec,cj,h]
def RP(h:((a.toNat:Int)==(b.toNat:Int))=false):a≠b:=λe=>by rw[e]at h;simp at h
def RQ(h:((a.toNat:Int)==(b.toNat:Int))=true):a=b:=by have:=eq_of_beq h;exact UInt8.toNat_inj.1 yO
def RN(s:S):Bool:= !(decide ((s.length:Int)<2)||decide ((4:Int)<s.length)|| !(JW s==118)||((((s.getD 1 0).toNat:Int)==48)&&decide ((2:Int)<s.length)))&&jJ lQ (s.drop 1)
def B9(s:S):RN s=sL s:=by
 unfold RN sL;cases s with
 |nil=>decide
 |cons c l=>
  have h1:Lib.hasPrefix (c::l) [118]=(c==118):=by simp[Lib.hasPrefix,List.isPrefixOf,BEq.comm]
  rw[h1];by_cases hc:c=118
  ·subst hc;have J:Lib.trimPrefix (118::l) [118]=l:=by simp[Lib.trimPrefix,Lib.hasPrefix,List.isPrefixOf]
   rw[J];cases l with
   |nil=>decide
   |cons x m=>
    have e1:(JW (118::x::m)==118)=true:=rfl;simp only[Iu,e1,bS,List.getD_cons_succ,vQ,Dl];have e2:((x::m) != [])=true:=rfl;have e3:JW (x::m)=(((x::m).getD 0 0).toNat:Int):=rfl;rw[e2,e3,cm];simp;intro hd;constructor
    ·rintro⟨⟨a,b⟩,c⟩;exact⟨yO,by grind⟩
    ·rintro⟨a,b⟩;exact⟨⟨yO,yO⟩,by grind⟩
  ·have:((JW (c::l))==118)=false:=by simp only[JW,List.getD_cons_zero,beq_eq_false_iff_ne];intro e;exact hc (UInt8.toNat_inj.1 (by have:(118:UInt8).toNat=118:=rfl;omega))
   rw[this];simp[hc]
end
end Go.VC
namespace Go.VC.cK
open Go Go.VC Go.Proofs
section
variable {s:S}{K:PV->List Ob->Prop}
def SJ:eE:={tt:=tt,n:=37,own:=[5],gK:=Vs.gK}
def WT(hs:s.length<=4294967200)(h:∀r,r=bH encS (gi s)->K (.lst 9 r) []):FT 190 [] [.str s] K:=by
 refine en SJ Tryz.func190 λA C L X=>?_;obtain⟨n,B⟩:∃n,n=s.length:=⟨_,rfl⟩;have c:A.dz s=br n:=by rw[X.a,B];rfl
 cbv;refine lP X (λy=>y.1<=n/\y.2=bH encS (gi (s.take y.1))) (λy=>n-y.1) (0,A.lit [[.str []]]) ⟨bD _,yX⟩ [0] (λ(y:Nat×D)=>⟨[(4,.int .i64 y.1),(0,.str s),(3,.row 9 0)],[.row 9 y.2 true]⟩) ?_;rintro⟨i,r⟩ ⟨I,hr⟩;simp only at I hr;cbv;constructor<;>intro h1
 ·have h5:i<s.length:=by obtain rfl:=X.a;simp only[SD]at h1 c;omega
  have E:A.idx (br i) (A.dz s):=by rw[c,X.a,B];exact⟨cW _,jy.2 h5⟩
  have x:=jX X.a h5;have d:=Cm X.a h5;obtain⟨l,hl⟩:∃l,l=gi (s.take i):=⟨_,rfl⟩;have g:l≠[]:=by rw[hl];exact uz _
  have F:0<l.length:=ej.2 g;have m:=yj (s.take i);rw[<- hl]at m;have w:(s.take i).length<=i:=yQ;have u:A.len r=br l.length:=gr X.a (by rw[hr,hl]);have f:A.sub (A.len r) 1=br (l.length-1):=by rw[u,X.a,iK];simp only[bz];omega
  have v:A.inr .i64 (A.sub (A.len r) 1):=by rw[f,X.a,dK];simp only[bz];omega
  have t:A.idx (A.sub (A.len r) 1) (A.len r):=by rw[f,X.a,hr,<-hl];exact cP yO
  have q:l[l.length-1]'yO=l.getLast?.getD []:=by rw[kG,bB yO];rfl
  have o:A.bL (A.cell r (A.sub (A.len r) 1) 0)=l.getLast?.getD []:=by rw[f,jR X.a (by rw[hr,hl]:r=bH encS l) yO,q]
  have p:A.Ar (A.lit [[.int (A.iZ s (br i))]])=[s[i]]:=by rw[d,X.a];simp[Std,ec,cp,Mj]
  have G:(l.getLast?.getD []).length<=i:=by rw[<- q];exact bR (m.2 _ (bx _)) w
  have j:A.inr .i64 (A.add (A.dz (A.bL (A.cell r (A.sub (A.len r) 1) 0))) (A.dz (A.Ar (A.lit [[.int (A.iZ s (br i))]])))):=by rw[o,p,X.a,dK,dO,fJ,fJ];simp;omega
  have z:A.fU (A.add (A.len r) (A.len (A.lit [[.str []]]))) 4294967296:=by rw[u,X.a,iW];simp only[SD];simp;omega
  have H:A.eq (A.iZ s (br i)) 47=true->A.app r (A.lit [[.str []]])=bH encS (gi (s.take (i+1))):=by intro e;rw[d,X.a]at e;have e:s[i]=47:=RQ (b:=47) e;rw[vT h5,e,yi,hr,X.a];exact cx (k:=[[]])
  have M:A.eq (A.iZ s (br i)) 47=false->A.o4 r (A.sub (A.len r) 1) 0 [.str (A.sO (A.bL (A.cell r (A.sub (A.len r) 1) 0)) (A.Ar (A.lit [[.int (A.iZ s (br i))]])))]=bH encS (gi (s.take (i+1))):=by intro e;rw[o,p];rw[d,X.a]at e;have e:s[i]≠47:=RP (b:=47) e;rw[vT h5,AY e,<-hl,<-Kz g,f,hr,<-hl,X.a];exact vD (y:=l.getLast?.getD []++[s[i]]) rfl yO rfl
  cbv;repeat' (first|apply bw|exact zf|(intro J;cbv)|apply bG)
  any_goals first|exact E|exact x|exact v|exact t|exact j|exact z
  ·have J:A.eq (A.iZ s (br i)) 47=true:=yA;exact⟨(i+1,_),⟨yP,H J⟩,yP,[0],rfl,yc⟩
  ·have J:A.eq (A.iZ s (br i)) 47=false:=yA;exact⟨(i+1,_),⟨yP,M J⟩,yP,[0],rfl,yc⟩
 ·have h5:i=n:=by obtain rfl:=X.a;simp only[SD]at h1 c;omega
  rw[h5,B,bF]at hr;cbv;exact h r hr
def WS(hs:s.length<=4294967295)(h:∀b,b=rb s->K (.bool b) []):FT 191 [] [.str s] K:=by
 refine en (cf 24) Tryz.func191 λA C L X=>?_;obtain⟨n,o⟩:∃n,n=s.length:=⟨_,rfl⟩;have f:A.dz s=br n:=by rw[X.a,o];rfl
 cbv;refine lu X (λi=>i<=n/\jJ FQ (s.take i)=true) (λi=>n-i) 0 ⟨bD _,rfl⟩ (λ(i:Nat)=>[(3,.int .i64 i)]) ?_;rintro i ⟨p,ha⟩;cbv;constructor<;>intro h1
 ·have h5:i<s.length:=by obtain rfl:=X.a;simp only[SD]at h1 f;omega
  have m:A.idx (br i) (A.dz s):=by rw[f,X.a,o];exact⟨cW _,jy.2 h5⟩
  have l:=jX X.a h5;have j:=Cm X.a h5;have Y:=fz X.a;have k:FQ (A.iZ s (br i))=false->false=rb s:=by intro e;rw[j]at e;rw[rb,tT h5 e];simp
  have g:FQ (A.iZ s (br i))=true->jJ FQ (s.take (i+1))=true:=by intro e;rw[j]at e;exact wI h5 ha e
  cbv;repeat' (first|apply bw|exact zf|(intro J;cbv)|apply bG|(refine X.call (Q7 λb1 c=>?_);cbv)|(refine X.call (Q6 λb2 d=>?_);cbv))
  any_goals first|exact m|exact l
  ·refine h _ (k ?_);have h3:A.not b1=true:=yA;rw[Y]at J h3;simp at J h3;rw[FQ];have c:b1=pS (A.iZ s (br i)):=c;have d:b2=lQ (A.iZ s (br i)):=d;rw[<- c,<-d,J,h3];rfl
  ·have J:A.not b2=false:=yA;rw[Y]at J;have d:b2=lQ (A.iZ s (br i)):=d;refine⟨i+1,⟨yO,g ?_⟩,yO,?_⟩
   ·rw[FQ,<-d];simp at J;simp[J]
   exact yc
  ·have J:A.not b1=false:=yA;rw[Y]at J;have c:b1=pS (A.iZ s (br i)):=c;refine⟨i+1,⟨yO,g ?_⟩,yO,?_⟩
   ·rw[FQ,<-c];simp at J;simp[J]
   exact yc
 ·have h5:i=n:=by obtain rfl:=X.a;simp only[SD]at h1 f;omega
  rw[h5,o,bF]at ha;cbv;refine X.call (JK hs λb hb=>?_);cbv;exact h _ (by rw[rb,ha,hb];simp)
end
end Go.VC.cK
namespace Go.VC
section
variable {s:S}{A:qC}{n z:Int}{p:Nat}
def tm(s:S):Bool:=decide ((s.length:Int)<2)||decide ((4:Int)<s.length)|| !(JW s==118)||((((s.getD 1 0).toNat:Int)==48)&&decide ((2:Int)<s.length))
def J9(h:tm s=true):sL s=false:=by rw[<- B9];show (!tm s&&jJ lQ (s.drop 1))=false;rw[h];rfl
def J8(h:jJ lQ (s.drop 1)=false):sL s=false:=by rw[<- B9];show (!tm s&&jJ lQ (s.drop 1))=false;rw[h,fb]
def PW(h:tm s=false)(J:jJ lQ (s.drop 1)=true):sL s=true:=by rw[<- B9];show (!tm s&&jJ lQ (s.drop 1))=true;rw[h,J];rfl
def Ju{i:Nat}(h0:1<=i)(h:i<s.length)(a:lQ (s[i].toNat:Int)=false):jJ lQ (s.drop 1)=false:=by rw[jJ,qo];refine⟨s[i],?_,by simp[a]⟩;rw[List.mem_drop_iff_getElem];exact⟨i-1,yO,by congr 1;omega⟩
def wK{a:S}:Std.iZ a 1=((a.getD 1 0).toNat:Int):=rfl
def Qx(ha:A=Std){k:IntKind}(h:k.min<=n/\n<=k.max):A.inr k n:=by subst ha;exact h
def vk(ha:A=Std)(h: -9223372036854775808<=n/\n<=9223372036854775807):A.inr .i64 n:=by subst ha;exact(cast dK.symm h)
def NW(h:z<br p)(a:p<=1000):z<1000:=by simp only[bz]at h;omega
def Ns{w:Int}{p':Nat}(h:z<br p)(J:p'=10*p)(a:w<=9):10*z+w<br p':=by simp only[bz]at h ⊢;omega
def Ka(h:tm s=false):2<=s.length/\s.length<=4:=by unfold tm at h;simp at h;omega
end
end Go.VC
namespace Go.VC.cK
open Go Go.VC Go.Proofs
section
variable {s:S}{K:PV->List Ob->Prop}
def WQ{s:S}{K:PV->List Ob->Prop}(hs:s.length<=4294967200)(h:∀n:Int,decide (n<0)= !sL s->K (.int .i64 n) []):FT 192 [] [.str s] K:=by
 refine en (cf 48) Tryz.func192 λA C L X=>?_;obtain⟨n,x⟩:∃n,n=s.length:=⟨_,rfl⟩;have c:A.dz s=br n:=by rw[X.a,x];rfl
 have l:A.lt (A.dz s) 2=false->A.idx 0 (A.dz s):=by rw[c,X.a,ik];intro e;have e:=of_decide_eq_false e;exact⟨yO,yO⟩
 have j:A.lt (A.dz s) 2=false->A.idx 1 (A.dz s):=by rw[c,X.a,ik];intro e;have e:=of_decide_eq_false e;exact⟨yO,yO⟩
 have f:tm s=true->K (.int .i64 (-1)) []:=λe=>h _ (by rw[J9 e];rfl);have d:jJ lQ (s.drop 1)=false->K (.int .i64 (-1)) []:=λe=>h _ (by rw[J8 e];rfl);have w:∀b,b=tm s->b=tm s:=λ_ e=>e;unfold tm at w;have r:tm s=false->FF->True:=λ_ _=>trivial;cbv;repeat' (first|apply bw|exact zf|(intro J;cbv)|apply bG)
 any_goals first|exact l yA|exact j yA
 all_goals try (refine f ?_;obtain rfl:=X.a;clear f d w r h l j;unfold tm;simp only[jo,wK,SD,dq]at* <;>simp_all<;>omega)
 all_goals (
  have o:tm s=false:=by obtain rfl:=X.a;clear f d w r h l j;unfold tm;simp only[jo,wK,SD,dq]at* <;>simp_all<;>omega
  have N:=Ka o;clear f w r l j;refine lp X (λy=>1<=y.1/\y.1<=n/\jJ lQ ((s.take y.1).drop 1)=true/\0<=y.2/\y.2<br (10 ^ (y.1-1))) (λy=>n-y.1) (1,0) ⟨ca _,yO,by simp[jJ],vM _,yD⟩ (λ(y:Nat×Int)=>⟨[(4,.int .i64 y.1),(3,.int .i64 y.2),(0,.str s)],[]⟩) ?_;rintro⟨i,z⟩ ⟨h0,O,ha,B,k⟩;simp only at h0 O ha B k;cbv;refine⟨λh1=>?_,λh1=>?_⟩
  ·have h5:i<s.length:=by obtain rfl:=X.a;simp only[SD,dq]at h1 c;omega
   have v:A.idx (br i) (A.dz s):=by rw[c,X.a,x];exact⟨cW _,jy.2 h5⟩
   have E:=jX X.a h5;have m:=Cm X.a h5;have Y:=fz X.a;have F:(10 ^ (i-1):Nat)<=1000:=bR (Nat.pow_le_pow_right yD (by omega:i-1<=3)) yD;have t:(10 ^ i:Nat)=10*10 ^ (i-1):=by rw[show i=(i-1)+1 by omega,Nat.pow_succ];simp;omega
   obtain⟨p,u⟩:∃p:Nat,p=10 ^ (i-1):=⟨_,rfl⟩;obtain⟨p',g⟩:∃p':Nat,p'=10 ^ i:=⟨_,rfl⟩;rw[<- u]at F t k;rw[<- g]at t;clear u;have P:=NW k F;cbv;repeat' (first|apply bw|exact zf|(intro J;cbv)|apply bG)
   all_goals (try exact v)
   refine X.call (Q6 λb hb=>?_);have hb:b=lQ (A.iZ s (br i)):=hb;have D:=hb;rw[m]at hb;have e1:A.sub (A.iZ s (br i)) 48=A.iZ s (br i)-48:=yX;have e2:A.mul 10 z=10*z:=yX;have e3:A.add (A.mul 10 z) (A.sub (A.iZ s (br i)) 48)=10*z+(A.iZ s (br i)-48):=by rw[e1,e2,X.a];rfl
   have hd:A.not b=false->lQ (A.iZ s (br i))=true:=by rw[Y,D];simp
   have a:A.not b=false->48<=A.iZ s (br i)/\A.iZ s (br i)<=57:=by intro e;have hd:=hd e;unfold lQ at hd;simpa using hd
   have H:A.not b=false->A.inr .u8 (A.sub (A.iZ s (br i)) 48):=by intro e;have a:=a e;rw[e1];exact Qx X.a ⟨by show (0:Int)<=_;omega,by show _<=(255:Int);omega⟩
   have r2:A.not b=false->A.inr .i64 (A.mul 10 z):=by intro e;rw[e2];exact vk X.a yO
   have G:A.not b=false->A.inr .i64 (A.sub (A.iZ s (br i)) 48):=by intro e;have a:=a e;rw[e1];exact vk X.a yO
   have M:A.not b=false->A.inr .i64 (A.add (A.mul 10 z) (A.sub (A.iZ s (br i)) 48)):=by intro e;have a:=a e;rw[e3];exact vk X.a yO
   have q:A.not b=false->jJ lQ ((s.take (i+1)).drop 1)=true/\0<=A.add (A.mul 10 z) (A.sub (A.iZ s (br i)) 48)/\A.add (A.mul 10 z) (A.sub (A.iZ s (br i)) 48)<br (10 ^ (i+1-1)):=by intro e;have hd:=hd e;have a:=a e;refine⟨?_,by rw[e3];omega,by rw[e3,Nat.add_sub_cancel,<-g];exact Ns k t yO⟩;rw[vT h5,List.drop_append_of_le_length yQ,jJ,nS,bI];exact⟨ha,by rw[m]at hd;simpa using hd⟩
   have I:A.not b=true->jJ lQ (s.drop 1)=false:=by intro e;rw[Y]at e;exact Ju h0 h5 (by rw[<- hb];simpa using e)
   clear g e1 e2 e3 hd a;cbv;repeat' (first|apply bw|exact zf|(intro J;cbv)|apply bG)
   all_goals (try first|exact v|exact E|exact H yA|exact r2 yA|exact G yA|exact M yA|exact d (I yA))
   refine⟨(i+1,_),⟨?_,?_,q yA⟩,?_,?_⟩
   ·exact Nat.le_add_left 1 i
   ·exact Nat.lt_of_lt_of_eq h5 x.symm
   ·show n-(i+1)<n-i;omega
   exact yc
  ·have h5:i=n:=by obtain rfl:=X.a;simp only[SD,dq]at h1 c;omega
   rw[h5,x,bF]at ha;have q:=h z (by rw[PW o ha];simp;omega);cbv;exact q)
def Xi(hs:s.length<=4294967200)(h:∀n e,e=sQ s->K (.tup [.int .i64 n,.int .i64 e]) []):FT 135 [] [.str s] K:=by
 have t:=uz s;have v:=yj s;have E:(gi s).getLast?.getD []=(gi s)[(gi s).length-1]'(by have:=ej.2 t;omega):=by rw[kG,bB (by have:=ej.2 t;omega)];rfl
 obtain⟨l,hl⟩:∃l,l=gi s:=⟨_,rfl⟩;have T:0<l.length:=by rw[hl];exact ej.2 t
 have E:(gi s).getLast?.getD []=l[l.length-1]'yO:=by rw[E];simp only[hl]
 rw[<- hl]at v;have g:sQ s=if sL (l[l.length-1]'yO)&&decide (s.length<=64)&&decide (2<=l.length)&&l.all rb then 0 else 4:=by unfold sQ;rw[E,<-hl]
 have u:(64:Int)<(s.length:Int)->4=sQ s:=λe=>by rw[g,decide_eq_false (by omega:¬s.length<=64)];simp
 have D:∀i (O:i<l.length),rb l[i]=false->4=sQ s:=λi O e=>by rw[g,all_false O e];simp
 have w:sL (l[l.length-1]'yO)=false->4=sQ s:=λe=>by rw[g,e];simp
 have F:((l.length:Nat):Int)<2->4=sQ s:=λe=>by rw[g,decide_eq_false (by omega:¬2<=l.length)];simp
 have P:¬(64:Int)<(s.length:Int)->(∀x∈l,rb x=true)->sL (l[l.length-1]'yO)=true->¬((l.length:Nat):Int)<2->0=sQ s:=λa b c d=>by rw[g,c,dk.2 b,decide_eq_true (by omega:s.length<=64),decide_eq_true (by omega:2<=l.length)];rfl
 clear g;refine en (cf 39) Tryz.func135 λA C L X=>?_;have Y:=fz X.a;have da:=Dh X.a;have m:A.dz s=(s.length:Int):=yX;refine p2 (λJ=>?_) (λJ=>?_)
 ·have J:A.lt 64 (A.dz s)=true:=J;rw[da,m]at J;exact h _ _ (u (of_decide_eq_true J))
 have q:A.lt 64 (A.dz s)=false:=yA;rw[da,m]at q;have q:=of_decide_eq_false q;refine X.call (WT hs λd hd=>?_);rw[<- hl]at hd;obtain⟨o,j,f⟩:=lenOf hd;cbv;refine lu X (λi=>i<=o/\∀x∈l.take i,rb x=true) (λi=>o-i) 0 ⟨bD _,yS⟩ (λ(i:Nat)=>[(5,.int .i64 i)]) ?_;rintro i ⟨O,ha⟩;cbv;constructor<;>intro h1
 ·have h5:i<l.length:=lY X.a f h1;have R:=jR X.a hd h5;have W:=iX X.a hd h5;have N:=jX X.a h5;have I:(A.bL (A.cell d (br i) 0)).length<=s.length:=by rw[R];exact v.2 _ (bx h5)
  refine p1 ?_;refine X.call (WS (bR I yO) λb hb=>?_);have hb:b=rb (A.bL (A.cell d (br i) 0)):=hb;rw[R]at hb;cbv;repeat' (first|apply bw|exact zf|(intro J;cbv)|apply bG)
  any_goals exact N
  ·have J:A.not b=true:=yA;rw[Y]at J;exact h _ _ (D i h5 (by rw[<- hb];simpa using J))
  ·have J:A.not b=false:=yA;rw[Y]at J;refine⟨i+1,⟨yO,?_⟩,yO,?_⟩
   ·rw[bX h5];intro y G;rcases bJ.1 G with G|G
    ·exact ha y G
    ·simp at G;subst G;rw[<- hb];simpa using J
   exact yc
 ·have h5:i=o:=gY X.a f h1;rw[h5,j,bF]at ha;clear h1 h5;have f:A.len d=br o:=by rw[X.a];exact f
  have B:A.sub (A.len d) 1=br (l.length-1):=by rw[f,X.a,iK,j];simp only[bz];omega
  have V:A.inr .i64 (A.sub (A.len d) 1):=by rw[B,X.a,dK];simp only[bz];omega
  have U:A.idx (A.sub (A.len d) 1) (A.len d):=by rw[B,X.a,hd];exact cP yO
  have r:A.bL (A.cell d (A.sub (A.len d) 1) 0)=l[l.length-1]'yO:=by rw[B,jR X.a hd yO]
  have M:(A.bL (A.cell d (A.sub (A.len d) 1) 0)).length<=s.length:=by rw[r];exact v.2 _ (bx _)
  refine p1 ?_;refine X.call (WQ (bR M hs) λn k=>?_);have k:decide (n<0)= !sL (A.bL (A.cell d (A.sub (A.len d) 1) 0)):=k;rw[r]at k;have e1:A.lt (A.len d) 2=true->((l.length:Nat):Int)<2:=by rw[da,f,j];exactλe=>of_decide_eq_true e
  have Q:A.lt (A.len d) 2=false->¬((l.length:Nat):Int)<2:=by rw[da,f,j];exactλe=>of_decide_eq_false e
  have e2:A.lt n 0=true->sL (l[l.length-1]'yO)=false:=by rw[da,k];simp
  have H:A.lt n 0=false->sL (l[l.length-1]'yO)=true:=by rw[da,k];simp
  cbv;repeat' (first|apply bw|exact zf|(intro J;cbv)|apply bG)
  all_goals first
   |exact h _ _ (F (e1 yA))
   |exact h _ _ (w (e2 yA))
   |exact h _ _ (P q ha (H yA) (Q yA))
def XR(hs:s.length<=4294967200)(h:∀b,b=Bb s->K (.bool b) []):FT 93 [] [.str s] K:=by refine en (cf 12) Tryz.func93 λA C L X=>?_;cbv;refine X.call (Xi hs λn e a=>?_);cbv;exact h _ (by rw[Bb,<-a];obtain rfl:=X.a;rfl)
end
end Go.VC.cK
namespace Go.VC
section
variable {t:Ty}
def preB(t:Ty):Bool:=decide (0<=t.k)&&decide (t.k<=10)&&(t.k==10||(decide (br t.ar.length=if t.k==5||t.k==8 then 1 else 0)&&t.m==[]))&&((t.k==6||t.k==7||t.k==8)|| !decide (0<br t.fl.length))&&(t.k==10||t.k==9||t.n==[])
def tC(t:Ty):gz t=(!(t.k != 8&&t.fl.any Fe.b)&&preB t):=by
 have hk:t.k<0\/10<t.k\/t.k=0\/t.k=1\/t.k=2\/t.k=3\/t.k=4\/t.k=5\/t.k=6\/t.k=7\/t.k=8\/t.k=9\/t.k=10:=yO;have f:∀l:List Fe,(!decide (0<br l.length))=decide (l.length=0):=λl=>by cases l<;>simp
 have ha:∀n:Nat,((n:Int)=0)=(n=0)/\((n:Int)=1)=(n=1):=λn=>⟨by apply propext;omega,by apply propext;omega⟩;unfold gz preB;rw[f];generalize (t.m==[])=b;generalize (t.n==[])=d;generalize t.fl.any Fe.b=a;generalize t.ar.length=na;generalize t.fl.length=nf;generalize t.k=k at hk;rcases hk with h|h|rfl|rfl|rfl|rfl|rfl|rfl|rfl|rfl|rfl|rfl|rfl
 ·have e:∀j:Int,0<=j->¬k=j:=λj c=>yO;simp[e,h];intro _;omega
 ·have e:∀j:Int,j<=10->¬k=j:=λj c=>yO;simp[e,h];intro _;omega
 all_goals simp[(ha na).1,(ha na).2]<;>cases a<;>cases b<;>cases d<;>simp
def NP(a b:S):Int:=if a=b then 5 else if slt b a then 1 else 0
def P2(h:preB t=false):1=qp t:=by unfold qp;rw[tC,h];simp
def P3(h:(t.k != 8&&t.fl.any Fe.b)=true):1=qp t:=by unfold qp;rw[tC,h];simp
def RY(h:preB t=true)(J:(t.k != 8&&t.fl.any Fe.b)=false):gz t=true:=by rw[tC,h,J];rfl
def P6(hs:gz t=true)(h:32<t.fl.length\/8<t.ar.length):7=qp t:=by unfold qp;rw[hs,if_pos h];simp
def Ql(h:preB t=true)(hk:t.k≠10):t.ar.length<=1:=by unfold preB at h;simp only[bI,gh,beq_iff_eq,decide_eq_true_eq,hk,false_or]at h;have:=h.1.1.2.1;simp only[bz]at this;split at this<;>omega
def Nh(hs:gz t=true)(h:¬(32<t.fl.length\/8<t.ar.length))(h4:(t.k=9/\xU t.n=false)\/(t.k=10/\(y9 t.m=false\/iT t.n=false))):4=qp t:=by unfold qp;rw[hs,if_neg h,if_pos h4];simp
def P5(hs:gz t=true)(h:¬(32<t.fl.length\/8<t.ar.length)){i:Nat}(a:i<t.fl.length)(b:ie t.fl[i].s=false):4=qp t:=by have:t.fl.any (λf=> !ie f.s)=true:=dZ.2 ⟨_,bx a,by simp[b]⟩;unfold qp;rw[hs,if_neg h,this];simp
def P4(hs:gz t=true)(h:¬(32<t.fl.length\/8<t.ar.length))(h4:¬((t.k=9/\xU t.n=false)\/(t.k=10/\(y9 t.m=false\/iT t.n=false))))(a:∀f∈t.fl,ie f.s=true):qp t=oJ (t.fl.map Fe.s):=by
 have:t.fl.any (λf=> !ie f.s)=false:=gS.2 λf hf=>by simp[a f hf]
 unfold qp;rw[hs,if_neg h,if_neg h4,this];simp
end
end Go.VC
namespace Go.VC.cK
open Go Go.VC Go.Proofs
section
variable {K:PV->List Ob->Prop}{s:S}
def X2(hs:s.length<=4294967295)(h:∀b,b=xU s->K (.bool b) []):FT 35 [] [.str s] K:=by
 refine en (cf 25) Tryz.func35 λA C L X=>?_;have a:A.eq (A.dz s) 2=true->A.idx 0 (A.dz s)/\A.idx 1 (A.dz s):=by rw[X.a];intro e;have e:(s.length:Int)=2:=eq_of_beq e;exact⟨⟨vM 0,by rw[fJ];omega⟩,⟨yD,by rw[fJ];omega⟩⟩
 cbv;refine X.call (TD hs λb1 c=>?_);cbv;repeat' (first|apply bw|exact zf|(intro J;cbv)|apply bG)
 any_goals first|exact(a yA).1|exact(a yA).2
 all_goals (refine h _ ?_;obtain rfl:=X.a;clear a;unfold xU;rw[<- c,CT];(try simp only[jo,wK,SD]at *)<;>simp_all<;>(intros;omega))
def Xc(hs:s.length<=4294967200)(h:∀b,b=y9 s->K (.bool b) []):FT 149 [] [.str s] K:=by
 refine en (cf 13) Tryz.func149 λA C L X=>?_;have a:s.length<=4294967295:=yO;cbv;repeat' (first|apply bw|exact zf|(intro J;cbv)|apply bG|(refine X.call (JK a λb1 d=>?_);cbv)|(refine X.call (XR hs λb2 c=>?_);cbv))
 all_goals (refine h _ ?_;obtain rfl:=X.a;unfold y9;(try simp only[SD]at *);simp_all)
def Xb{a b:S}(h:∀r:Int,r=NP a b->K (.int .i64 r) []):FT 150 [] [.str a,.str b] K:=by
 refine en (cf 11) Tryz.func150 λA C L X=>?_;have d:A.seq a b=true->5=NP a b:=by rw[X.a];intro e;unfold NP;rw[if_pos (eq_of_beq e)]
 have f:A.seq a b=false->A.slt b a=true->1=NP a b:=by rw[X.a];intro e e2;unfold NP;rw[if_neg (beq_eq_false_iff_ne.1 e)];exact(if_pos e2).symm
 have c:A.seq a b=false->A.slt b a=false->0=NP a b:=by rw[X.a];intro e e2;unfold NP;rw[if_neg (beq_eq_false_iff_ne.1 e)];exact(if_neg (λe3=>Bool.noConfusion (e3.symm.trans e2))).symm
 cbv;repeat' (first|apply bw|exact zf|(intro J;cbv)|apply bG)
 ·exact h _ (d yA)
 ·exact h _ (f (by assumption) (by assumption))
 ·exact h _ (c (by assumption) (by assumption))
end
end Go.VC.cK
namespace Go.VC
def NK(t:Ty):preB t=(!Std.lt t.k 0&& !Std.lt 10 t.k&&(Std.eq t.k 10||(Std.eq (br t.ar.length) (if Std.eq t.k 5||Std.eq t.k 8 then 1 else 0)&&Std.seq t.m []))&&((Std.eq t.k 6||Std.eq t.k 7||Std.eq t.k 8)|| !Std.lt 0 (br t.fl.length))&&(Std.eq t.k 10||Std.eq t.k 9||Std.seq t.n [])):=by
 have h1:(!Std.lt t.k 0)=decide (0<=t.k):=by
  show (!decide (t.k<0))=_;by_cases h:t.k<0
  ·simp[h]
  ·simp[h];omega
 have J:(!Std.lt 10 t.k)=decide (t.k<=10):=by
  show (!decide (10<t.k))=_;by_cases h:10<t.k
  ·simp[h]
  ·simp[h];omega
 have h3:∀a b:Int,decide (a=b)=Std.eq a b:=λa b=>by show _=(a==b);by_cases e:a=b<;>simp[e]
 rw[h1,J];unfold preB;rw[h3];rfl
def Ly{l:List S}{i:Nat}(h:oJ l=oJ (l.drop (i-1)))(a:l.length<=i):oJ l=0:=by
 rw[h];cases hl:l.drop (i-1)with
 |nil=>rfl
 |cons x m=>
  cases m with
  |nil=>rfl
  |cons y k=>have:=congrArg jt hl;simp at this;omega
end Go.VC
namespace Go.VC.cK
open Go Go.VC Go.Proofs
def Xx{t:Ty}(aC:Ty.le 4294967295 t)(hn:t.mF){d:Int}{c1 c2:S}{y l:D}{K:PV->List Ob->Prop}(ht:cD t d c1 c2 y l)(h:∀e,e=qp t->K (.int .i64 e) []):FC Tryz.prog tt 103 [] [df d c1 c2 y l] K:=by
 obtain⟨H,R,O,E,j⟩:=ht;have aI:t.fl.length<=4294967295:=by cases aC;assumption
 have aB:c1.length<=4294967200:=by rw[R];exact bR hn.m (by decide)
 have W:c2.length<=4294967295:=by rw[O];exact bR hn.n (by decide)
 refine FC.enter (G:=VX) eX mixed ⟨Tryz.func103,by rfl,rfl⟩ rfl rfl rfl ?_;intro A C L X;have l3:A.len y=br t.ar.length:=gr X.a E;have l4:A.len l=br t.fl.length:=gr X.a j;have Z:=mI X.a;cases e5:A.eq d 5<;>cases e8:A.eq d 8<;>cases e6:A.eq d 6<;>cases e7:A.eq d 7<;>cases gD:A.eq d 10<;>cases e9:A.eq d 9
 all_goals (
  have k5:=e5;have k8:=e8;have k6:=e6;have k7:=e7;have w:=gD;have k9:=e9;rw[Z]at k5 k8 k6 k7 w k9;try (exfalso;simp only[beq_iff_eq,beq_eq_false_iff_ne]at k5 k8 k6 k7 w k9;omega))
 all_goals (
  have Y:=fz X.a;have aw:=(Y (A.eq d 10)).trans (congrArg Bool.not gD);have m9:=(Y (A.eq d 9)).trans (congrArg Bool.not e9);have Q:preB t=(!A.lt d 0&& !A.lt 10 d&&(A.eq d 10||(A.eq (A.len y) (if A.eq d 5||A.eq d 8 then 1 else 0)&&A.seq c1 []))&&((A.eq d 6||A.eq d 7||A.eq d 8)|| !A.lt 0 (A.len l))&&(A.eq d 10||A.eq d 9||A.seq c2 [])):=by rw[l3,l4,H,R,O,X.a];exact NK t
  rw[e5,e8,e6,e7,gD,e9]at Q;simp only[mX,FG,ow,xR,qI,if_true,cC,if_false]at Q;have hK:preB t=false->K (.int .i64 1) []:=λe=>h _ (P2 e);cbv;repeat' (first|apply bw|exactλ(_:FF)=>by kernel_rfl|(intro J;first|exact absurd ((e5).symm.trans J) (by decide)|exact absurd ((e8).symm.trans J) (by decide)|exact absurd ((e6).symm.trans J) (by decide)|exact absurd ((e7).symm.trans J) (by decide)|exact absurd ((gD).symm.trans J) (by decide)|exact absurd ((e9).symm.trans J) (by decide)|exact absurd ((aw).symm.trans J) (by decide)|exact absurd ((m9).symm.trans J) (by decide)|cbv)|apply bG)
  all_goals simp only[Y,fX,oS,dq,cond_true,cond_false]at*
  all_goals try exact hK (by rw[Q];clear Q hK H R O E j l3 l4 Z Y k5 k8 k6 k7 w k9;simp[*]))
 all_goals (
  have Y:=fz X.a;have ah:preB t=true:=by rw[Q];clear Q hK H R O E j l3 l4 Z Y k5 k8 k6 k7 w k9;simp[*]
  clear Q hK;have ai:A.lt 32 (A.len l)=decide (32<t.fl.length):=by rw[l4,X.a,ik];exact decide_eq_decide.2 (by simp only[bz];omega)
  have ae:A.lt 8 (A.len y)=decide (8<t.ar.length):=by rw[l3,X.a,ik];exact decide_eq_decide.2 (by simp only[bz];omega)
  obtain⟨g,u,c⟩:=lenOf j
  refine X.loop (λ(i:Nat)=>⟨[(5,.int .i64 i),(1,.box 0 0)],[.box [.int .i64 d,.str c1,.str c2,.lst 29 y,.lst 42 l]]⟩)
   (λi=>i<=g/\∀f∈t.fl.take i,(t.k != 8&&f.b)=false) (λi=>g-i) 0 ⟨bD _,by simp⟩ ?_ ?_
  ·(cbv;repeat' apply bw);all_goals try first|trivial|rfl|(rw[X.a];rfl)
  rintro i ⟨hi,ha⟩;cbv;refine⟨λh1=>?_,λh1=>?_⟩
  ·have h5:i<t.fl.length:=by obtain rfl:=X.a;simp only[c,SD,dq]at h1;omega
   have kb:=(wF X.a j h5).2;have p:A.idx (br i) (A.len l):=by rw[X.a,j];exact cP h5
   have v:A.inr .i64 (A.add (br i) 1):=by rw[X.a];exact ek h5 (by omega)
   have m8:=(Y (A.eq d 8)).trans (congrArg Bool.not e8);have V:(t.k != 8)= !(A.eq d 8):=by rw[<- H,Z];rfl
   have ag:A.asBool (A.cell l (br i) 6)=true->A.eq d 8=false->K (.int .i64 1) []:=λe e'=>h _ (P3 (by rw[V,e'];exact dZ.2 ⟨_,bx h5,kb▸e⟩))
   have z:(t.k != 8&&(t.fl[i]).b)=false->∀f∈t.fl.take (i+1),(t.k != 8&&f.b)=false:=by
    intro e f hf;rw[bX h5]at hf;rcases bJ.1 hf with hf|hf
    ·exact ha f hf
    ·simp at hf;subst hf;exact e
   rw[<- kb]at z;have ad:=λe:A.asBool (A.cell l (br i) 6)=false=>z (by rw[e,fb]);have ac:=λe:A.eq d 8=true=>z (by rw[V,e];rfl);clear z;cbv;repeat' (first|apply bw|exactλ(_:FF)=>by kernel_rfl|(intro J;first|exact absurd ((m8).symm.trans J) (by decide)|cbv)|apply bG)
   all_goals (try first|exact p|exact v)
   all_goals first
    |exact ag (by assumption) e8
    |(refine⟨i+1,⟨by omega,by first|exact ad (by assumption)|exact ac e8⟩,by omega,?_⟩;(cbv;repeat' apply bw);all_goals try first|trivial|rfl|(rw[X.a];rfl))
  have h5:i=g:=by obtain rfl:=X.a;simp only[c,SD,dq]at h1;omega
  rw[h5,u,bF]at ha
  have M:(t.k != 8&&t.fl.any Fe.b)=false:=by
   cases h8:(t.k != 8)with
   |false=>rfl
   |true=>rw[fB,gS];intro f hf;have:=ha f hf;rw[h8]at this;simpa using this
  have B:=RY ah M;clear ha h1 h5 M;have n:32<t.fl.length\/8<t.ar.length->K (.int .i64 7) []:=λe=>h _ (P6 B e)
  have o:A.lt 32 (A.len l)=false->(A.eq d 10=true->A.lt 8 (A.len y)=false)->¬(32<t.fl.length\/8<t.ar.length):=by
   rw[ai,ae,Z];intro a b;rintro(e|e)
   ·exact of_decide_eq_false a e
   ·by_cases k:t.k=10
    ·exact of_decide_eq_false (b (by rw[H,k];rfl)) e
    ·have:=Ql ah k;omega
  rw[gD]at o;have h4:¬(32<t.fl.length\/8<t.ar.length)->(t.k=9/\xU t.n=false)\/(t.k=10/\(y9 t.m=false\/iT t.n=false))->K (.int .i64 4) []:=λa b=>h _ (Nh B a b);rw[<- R,<-O]at h4;have T:t.k=9↔A.eq d 9=true:=by rw[Z,H];simp
  have I:t.k=10↔A.eq d 10=true:=by rw[Z,H];simp
  rw[e9]at T;rw[gD]at I;cbv;repeat' (first|apply bw|exactλ(_:FF)=>by kernel_rfl|(intro J;first|exact absurd ((gD).symm.trans J) (by decide)|exact absurd ((e9).symm.trans J) (by decide)|cbv)|apply bG|(refine X.call (X2 W λb hb=>?_);cbv)|(refine X.call (Xc aB λb hb=>?_);cbv)|(refine X.call (TD W λb hb=>?_);cbv)))
 all_goals (
  have Y:=fz X.a
  first
   |exact n (.inl (of_decide_eq_true (ai.symm.trans (by assumption))))
   |exact n (.inr (of_decide_eq_true (ae.symm.trans (by assumption))))
   |(refine h4 (o (by assumption) (by first|(intro e;cases e;done)|(intro _;assumption))) ?_
     simp only[Y,fX,oS,dq,cond_true,cond_false]at*;clear n o h4;simp_all
     done)
   |skip)
 all_goals (
  have o:=o (by assumption) (by first|(intro e;cases e;done)|(intro _;assumption));have aq:¬((t.k=9/\xU t.n=false)\/(t.k=10/\(y9 t.m=false\/iT t.n=false))):=by rw[<- R,<-O];simp only[Y,fX,oS,dq,cond_true,cond_false]at*;clear n o h4 H R O E j l3 l4;simp_all
  clear h4 n T I;have U:∀i (hi:i<t.fl.length),ie (t.fl[i]).s=false->K (.int .i64 4) []:=λi hi e=>h _ (P5 B o hi e);have m:(∀f∈t.fl,ie f.s=true)->∀r,r=oJ (t.fl.map Fe.s)->K (.int .i64 r) []:=λe r hr=>h _ (by rw[P4 B o aq e,hr])
  refine X.loop (λ(i:Nat)=>⟨[(6,.int .i64 i),(1,.box 0 0)],[.box [.int .i64 d,.str c1,.str c2,.lst 29 y,.lst 42 l]]⟩)
   (λi=>i<=g/\∀f∈t.fl.take i,ie f.s=true) (λi=>g-i) 0 ⟨bD _,by simp⟩ ?_ ?_
  ·(cbv;repeat' apply bw);all_goals try first|trivial|rfl|(rw[X.a];rfl)
  rintro i ⟨hi,ha⟩;cbv;refine⟨λh1=>?_,λh1=>?_⟩
  ·have h5:i<t.fl.length:=by obtain rfl:=X.a;simp only[c,SD,dq]at h1;omega
   have kb:=(wF X.a j h5).1;have p:A.idx (br i) (A.len l):=by rw[X.a,j];exact cP h5
   have v:A.inr .i64 (A.add (br i) 1):=by rw[X.a];exact ek h5 (by omega)
   have au:(A.bL (A.cell l (br i) 0)).length<=4294967295:=by rw[kb];exact bR (hn.f _ (bx h5)) (by decide)
   cbv;repeat' (first|apply bw|exactλ(_:FF)=>by kernel_rfl|(intro J;cbv)|apply bG)
   all_goals (try exact p)
   refine X.call (JK au λb hb=>?_);have hb:b=ie (A.bL (A.cell l (br i) 0)):=hb;rw[kb]at hb;have q0:A.not b=true->K (.int .i64 4) []:=λe=>U i h5 (by rw[<- hb];rw[Y]at e;simpa using e)
   have q1:A.not b=false->∀f∈t.fl.take (i+1),ie f.s=true:=by
    intro e f hf;rw[bX h5]at hf;rcases bJ.1 hf with hf|hf
    ·exact ha f hf
    ·simp at hf;subst hf;rw[<- hb];rw[Y]at e;simpa using e
   cbv;repeat' (first|apply bw|exactλ(_:FF)=>by kernel_rfl|(intro J;cbv)|apply bG)
   all_goals (try first|exact p|exact v)
   all_goals first
    |exact q0 (by assumption)
    |(refine⟨i+1,⟨by omega,q1 (by assumption)⟩,by omega,?_⟩;(cbv;repeat' apply bw);all_goals try first|trivial|rfl|(rw[X.a];rfl))
  have h5:i=g:=by obtain rfl:=X.a;simp only[c,SD,dq]at h1;omega
  rw[h5,u,bF]at ha;have m:=m ha;clear ha h1 h5 U;obtain⟨ns,x⟩:∃ns,ns=t.fl.map Fe.s:=⟨_,rfl⟩;have aJ:ns.length=t.fl.length:=by rw[x,bQ]
  have s:∀i (h:i<t.fl.length),(t.fl[i]).s=ns[i]'(by omega):=λi h=>by simp[x]
  rw[<- x]at m;clear x;cbv
  refine X.loop (λ(i:Nat)=>⟨[(7,.int .i64 i),(1,.box 0 0)],[.box [.int .i64 d,.str c1,.str c2,.lst 29 y,.lst 42 l]]⟩)
   (λi=>1<=i/\(i<=g\/i=1)/\oJ ns=oJ (ns.drop (i-1))) (λi=>g-i) 1 ⟨ca _,.inr rfl,rfl⟩ ?_ ?_
  ·(cbv;repeat' apply bw);all_goals try first|trivial|rfl|(rw[X.a];rfl)
  rintro i ⟨ax,hi,he⟩;cbv;refine⟨λh1=>?_,λh1=>?_⟩
  ·have h5:i<t.fl.length:=by obtain rfl:=X.a;simp only[c,SD,dq]at h1;omega
   have hm:A.sub (br i) 1=br (i-1):=by rw[X.a,iK];simp only[bz];omega
   have N:A.inr .i64 (A.sub (br i) 1):=by rw[hm];exact vk X.a (by simp only[bz];omega)
   have k1:=(wF X.a j h5).1;have k0:=(wF X.a j (show i-1<t.fl.length by omega)).1;rw[<- hm]at k0;have p:A.idx (br i) (A.len l):=by rw[X.a,j];exact cP h5
   have F:A.idx (A.sub (br i) 1) (A.len l):=by rw[hm,X.a,j];exact cP (by omega)
   have v:A.inr .i64 (A.add (br i) 1):=by rw[X.a];exact ek h5 (by omega)
   have P:=Bt ax (show i<ns.length by omega);rw[<- s i h5,<-s (i-1) (by omega),<-k0,<-k1]at P;cbv;repeat' (first|apply bw|exactλ(_:FF)=>by kernel_rfl|(intro J;cbv)|apply bG)
   all_goals (try first|exact N|exact F|exact p)
   refine X.call (Xb λr hr=>?_);have hr:r=NP (A.bL (A.cell l (A.sub (br i) 1) 0)) (A.bL (A.cell l (br i) 0)):=hr;unfold NP at hr
   have q0:A.not (A.eq r 0)=true->r=oJ ns:=by
    rw[Y,Z,he,P];intro e;by_cases c1:A.bL (A.cell l (A.sub (br i) 1) 0)=A.bL (A.cell l (br i) 0)
    ·rw[if_pos c1]at hr ⊢;exact hr
    ·rw[if_neg c1]at hr ⊢;split at hr
     ·rename_i c2;rw[if_pos c2];exact hr
     ·rw[hr]at e;cases e
   have q1:A.not (A.eq r 0)=false->oJ ns=oJ (ns.drop (i+1-1)):=by
    rw[Y,Z,he,P];intro e;by_cases c1:A.bL (A.cell l (A.sub (br i) 1) 0)=A.bL (A.cell l (br i) 0)
    ·rw[if_pos c1]at hr;rw[hr]at e;cases e
    ·rw[if_neg c1]at hr ⊢;split at hr
     ·rw[hr]at e;cases e
     ·rename_i c2;rw[if_neg c2];rfl
   cbv;repeat' (first|apply bw|exactλ(_:FF)=>by kernel_rfl|(intro J;cbv)|apply bG)
   all_goals (try first|exact v|exact N|exact F|exact p)
   all_goals first
    |exact m _ (q0 (by assumption))
    |(refine⟨i+1,⟨by omega,by omega,q1 (by assumption)⟩,by omega,?_⟩;(cbv;repeat' apply bw);all_goals try first|trivial|rfl|(rw[X.a];rfl))
  have h5:g<=i:=by obtain rfl:=X.a;simp only[c,SD,dq]at h1;omega
  have q:=m 0 (Ly he (by omega)).symm;cbv;exact q)
end Go.VC.cK
