/- Part 8 of the common texts. -/
import Derived.Lib.LaidU8
import Derived.MakeChecks
import Derived.Test.YtefbdgenddbehaaGreatDoorRows
import Derived.ProofKit
import Derived.OpenShut
import Derived.JoinedCond
import Derived.Deep.DeepHandedRow
import Derived.LaidMore
import Derived.LaidHandle
import Derived.LaidLaws
import Derived.Shelf.Vars
import Derived.Deep.DeepWitnessRowRef
import Derived.Test.YtefbdgenddbehaaGreatDoorPart7
set_option linter.all false
set_option maxRecDepth 100000
set_option maxHeartbeats 16000000
open List renaming length_append→bE,length_cons→bS,length_map→bQ,length_nil→cH,map_append→cg,map_cons→bO,map_map→ju,mem_append→bJ,mem_cons→bP,mem_flatMap→cN,mem_map→bT,mem_singleton→cU,sum_append→ea,sum_cons→ch
open Nat renaming le_trans→bR
open Option renaming bind_some→iY
open Option.some renaming inj→fF
namespace Go.VC.cK
open Go Go.VC Go.Proofs
open Go.ChangeShapes Go.WideShapes Go.ChangeAt Go.RowKit
section
namespace Bk
open YtefbdgenddbehaaGreatDoor
variable {H:Type}
theorem one_le(d:DataW H):1<=Rows.uptoBulk d:=by
 cases d with
 |lit l=>cases l<;>simp[Rows.uptoBulk]
 |nil=>simp[Rows.uptoBulk]
 |ptr d=>simp[Rows.uptoBulk]
 |slice elems spare=>simp[Rows.uptoBulk]
 |agg parts=>simp[Rows.uptoBulk]
 |iface t d=>simp[Rows.uptoBulk]
 |map entries=>simp[Rows.uptoBulk]
 |held h=>simp[Rows.uptoBulk]
theorem uH{d:DataW H}:∀{l:List (DataW H)},d∈l->Rows.uptoBulk d<=Rows.uptoBulkAll l
 |x::r,h=>by
  simp only[Rows.uptoBulkAll];rcases bP.1 h with rfl|h
  ·omega
  ·have:=uH h;omega
theorem Lg:∀(l:List (DataW H)),l.length<=Rows.uptoBulkAll l
 |[]=>yS
 |x::r=>by have:=one_le x;have:=Lg r;simp only[Rows.uptoBulkAll,bS];omega
theorem FL:∀(l:List (DataW H)),(l.map Rows.uptoBulk).sum=Rows.uptoBulkAll l
 |[]=>by simp[Rows.uptoBulkAll]
 |x::r=>by simp only[bO,ch,Rows.uptoBulkAll,FL r]
theorem ok:MU (H:=H) Rows.uptoBulk where
 str s:=by simp[Rows.uptoBulk]
 slice es sp:=⟨by have:=Lg es;simp only[Rows.uptoBulk];omega,λe he=>by have:=uH he;simp only[Rows.uptoBulk];omega⟩
 agg ps e he:=by have:=uH he;simp only[Rows.uptoBulk];omega
 ptr d:=by simp only[Rows.uptoBulk];omega
 one d:=one_le d
 RT es sp:=by rw[FL];simp only[Rows.uptoBulk];omega
 RU ps:=by rw[FL];simp only[Rows.uptoBulk];omega
end Bk
theorem own:ownKnob Tryz.prog.godebug=none:=by kernel_rfl
theorem laid:laidOutB Tryz.prog=true:=by kernel_rfl
abbrev TS:List TypeId:=[3,4,9,23,24,25,26,27,29,42,45,46,47,48,49,51,56,99,141,152]
theorem XQ:TS.all (E8 tt TS)=true:=by kernel_rfl
theorem Kl{α:Type}{l:List α}:(l.map λ_=>1).sum=l.length:=by
 induction l with
 |nil=>simp
 |cons x l a=>simp only[bO,ch,bS];omega
section
variable {n:Nat}{Pp:ga}
variable {vs:List Value}{row:List D}{v:Value}{d:D}
theorem ma{e:TypeId}{α:Type}{f:α->List D}{p:α->Prop}{g:α->Nat}{m:Nat}(ef:∀vs row,gw tt Pp n (bV tt e) vs row->kH row<=m->∃x,row=f x/\p x/\g x<=kH row)
 (h:RD tt Pp (.slice e) v d) (hb:Bd n d) (k:wD d<=m+1):∃l:List α,d=bH f l/\l.length<=n/\(∀x∈l,p x)/\(l.map g).sum+1<=wD d:=by
 obtain⟨rows,rfl,hl,hr⟩:=RD.rows h hb;simp only[wD]at k;obtain⟨l,rfl,j⟩:=lift_map (f:=f) (p:=λx=>p x/\g x<=kH (f x)) (rows:=rows) (λr c=>by obtain⟨vs,o⟩:=hr r c;obtain⟨x,e1,e2,e3⟩:=ef vs r o (by have:=Hq c;omega);exact⟨x,e1,e2,by rw[<- e1];exact e3⟩);refine⟨l,rfl,yU hl,λx i=>(j x i).1,?_⟩;simp only[wD,B8,ju]
 have:∀l:List α,(∀x∈l,g x<=kH (f x))->(l.map g).sum<=(l.map (kH∘f)).sum:=by
  intro l;induction l with
  |nil=>simp
  |cons x l q=>intro h;have a:=h x yS;have b:=q λy s=>h y (by simp[s]);simp only[bO,ch,Function.comp];omega
 have:=this l λx i=>(j x i).2;omega
theorem PA:bV tt 29=[.int .i64,.str,.str,.slice 29,.slice 42]:=by kernel_rfl
theorem Tg:bV tt 42=[.str,.int .i64,.str,.str,.slice 29,.slice 42,.bool]:=by kernel_rfl
theorem BH:∀(m:Nat){vs:List Value}{row:List D},kH row<=m->m<=1048578->gw tt Pp 1048576 [.int .i64,.str,.str,.slice 29,.slice 42] vs row->∃t:Ty,row=cE t/\t.fit/\t.size+3<=kH row
 |0,vs,row,hm,_,h=>by
  cases h with
  |cons _ _ d _ _ _ h1 _ t1=>
  cases h1;simp only[kH,wD]at hm;omega
 |m+1,vs,row,hm,O,h=>by
  have B:=λ{vs row} (h1:kH row<=m)=>BH m (vs:=vs) (row:=row) h1 yO;cases h with
  |cons _ _ _ _ _ _ h1 _ t1=>
  cases t1 with
  |cons _ _ _ _ _ _ J b2 t2=>
  cases t2 with
  |cons _ _ _ _ _ _ h3 L t3=>
  cases t3 with
  |cons _ _ d4 _ _ _ h4 P t4=>
  cases t4 with
  |cons _ _ d5 _ _ _ h5 F t5=>
  cases t5;cases h1 with
  |int _ s=>
  cases J with
  |str z2=>
  cases h3 with
  |str z3=>
  cases b2 with
  |str _ z=>
  cases L with
  |str _ w=>
  have N:=hm;simp only[kH,wD]at hm;obtain⟨k,rfl,q,l,G⟩:=ma (f:=cE) (p:=Ty.fit) (g:=Ty.size) (m:=m) (λvs row hr j=>by rw[PA]at hr;obtain⟨t,a,b,c⟩:=B j hr;exact⟨t,a,b,yO⟩) h4 P yO
  obtain⟨e,rfl,A,i,K⟩:=ma (f:=fq) (p:=λf=>f.t.fit/\f.s.length<=1048576) (g:=λf=>f.t.size) (m:=m) (λvs row hr j=>by
   rw[Tg]at hr;cases hr with
   |cons _ _ _ _ _ _ g0 U M=>
   cases M with
   |cons _ _ _ _ _ _ g1 c1 s1=>
   cases s1 with
   |cons _ _ _ _ _ _ g2 c2 s2=>
   cases s2 with
   |cons _ _ _ _ _ _ g3 c3 R=>
   cases R with
   |cons _ _ _ _ _ _ g4 T E=>
   cases E with
   |cons _ _ _ _ _ _ g5 c5 V=>
   cases V with
   |cons _ _ _ _ _ _ g6 _ C=>
   cases C;cases g0 with
   |str S=>
   cases U with
   |str _ r=>
   cases g6 with
   |bool I=>
   have y:=gw.cons _ _ _ _ _ _ g1 c1 (.cons _ _ _ _ _ _ g2 c2 (.cons _ _ _ _ _ _ g3 c3 (.cons _ _ _ _ _ _ g4 T (.cons _ _ _ _ _ _ g5 c5 .nil))));simp only[kH,wD]at j;obtain⟨t,a,b,c⟩:=B (by simp only[kH];omega) y;refine⟨.mk S.data.toList t I,?_,⟨b,r⟩,?_⟩
   ·show _=D.str _::(cE t++[D.bool _]);rw[<- a];rfl
   ·simp only[kH,wD]at c ⊢;show t.size<=_;omega) h5 F yO
  have fL:(Ty.mk s z2.data.toList z3.data.toList k e).size+3<=kH [D.int s,D.str z2.data.toList,D.str z3.data.toList,bH cE k,bH fq e]:=by rw[size_eq];show 1+(((k++e.map Fe.t).map Ty.size).sum)+3<=_;simp only[kH,wD]at*;rw[cg,ea,ju];have:(e.map (Ty.size∘Fe.t)).sum=(e.map λf=>f.t.size).sum:=rfl;omega
  refine⟨.mk s z2.data.toList z3.data.toList k e,?_,⟨?_,?_,?_⟩,fL⟩
  ·rw[dI];rfl
  ·exact .mk _ (bR q yD) (bR A yD) (λu hu=>(l u hu).le) (λf hf=>(i f hf).1.le)
  ·omega
  ·intro u hu;rw[all_eq]at hu;rcases bP.1 hu with rfl|hu
   ·exact⟨z,w,λx Q=>(i x Q).2⟩
   ·obtain⟨v,o,hu⟩:=cN.1 hu;rcases bJ.1 (show v∈k++e.map Fe.t from o)with o|o
    ·exact(l v o).mF u hu
    ·obtain⟨f,hf,rfl⟩:=bT.1 o;exact(i f hf).1.mF u hu
theorem Th:bV tt 56=[.str,.int .i64,.int .i64,.str,.str,.slice 29,.slice 42]:=by kernel_rfl
theorem Ti:bV tt 45=[.str,.slice 56,.int .i64,.str,.str,.slice 29,.slice 42,.int .i64,.str,.str,.slice 29,.slice 42]:=by kernel_rfl
theorem QR:bV tt 99=[.str,.slice 56,.int .i64,.str,.str,.slice 29,.slice 42]:=by kernel_rfl
theorem QQ:bV tt 141=[.str,.str,.str]:=by kernel_rfl
theorem QP:bV tt 152=[.str,.str]:=by kernel_rfl
theorem Tj:bV tt 51=[.str,.slice 45,.slice 99,.slice 141,.slice 152]:=by kernel_rfl
theorem Tb(h:gw tt Pp 1048576 (bV tt 56) vs row)(b:kH row<=1048576):∃x:Pm,row=ew x/\(x.bound.fit/\x.name.length<=1048576)/\x.wt<=kH row:=by
 rw[Th]at h;cases h with
 |cons _ _ d0 _ _ _ g0 o k=>
 cases k with
 |cons _ _ d1 _ _ _ g1 c1 s1=>
 cases s1 with
 |cons _ _ d2 _ _ _ g2 c2 s2=>
 cases s2 with
 |cons _ _ d3 _ _ _ g3 c3 f=>
 cases f with
 |cons _ _ d4 _ _ _ g4 m g=>
 cases g with
 |cons _ _ d5 _ _ _ g5 c5 q=>
 cases q with
 |cons _ _ d6 _ _ _ g6 l c=>
 cases c;cases g0 with
 |str z0=>
 cases o with
 |str _ i=>
 cases g1 with
 |int _ j=>
 have a:=gw.cons _ _ _ _ _ _ g2 c2 (.cons _ _ _ _ _ _ g3 c3 (.cons _ _ _ _ _ _ g4 m (.cons _ _ _ _ _ _ g5 c5 (.cons _ _ _ _ _ _ g6 l .nil))));simp only[kH,wD]at b;obtain⟨t,e,fit,sz⟩:=BH 1048576 (by simp only[kH];omega) yD a;refine⟨⟨z0.data.toList,j,t⟩,?_,⟨fit,i⟩,?_⟩
 ·unfold ew;rw[<- e]
 ·simp only[kH,wD,Pm.wt]at sz ⊢;omega
theorem GU(h:RD tt Pp (.slice 56) v d)(hb:Bd 1048576 d)(b:wD d<=1048576):∃l:List Pm,d=bH ew l/\l.length<=1048576/\(∀x∈l,x.bound.fit/\x.name.length<=1048576)/\(l.map Pm.wt).sum+1<=wD d:=ma (m:=1048576) (λvs row hr a=>Tb hr a) h hb yO
theorem Te(h:gw tt Pp 1048576 (bV tt 141) vs row):∃x:AE,row=rP x/\x.fit/\1<=kH row:=by
 rw[QQ]at h;cases h with
 |cons _ _ d0 _ _ _ g0 a b=>
 cases b with
 |cons _ _ d1 _ _ _ g1 c1 s1=>
 cases s1 with
 |cons _ _ d2 _ _ _ g2 c2 s2=>
 cases s2;cases g0 with
 |str z0=>
 cases g1 with
 |str e=>
 cases g2 with
 |str z2=>
 cases a with
 |str _ c=>
 cases c2 with
 |str _ b2=>
 exact⟨⟨_,_,_⟩,rfl,⟨c,b2⟩,by simp only[kH,wD];omega⟩
theorem Td(h:gw tt Pp 1048576 (bV tt 152) vs row):∃x:DE,row=vw x/\x.fit/\1<=kH row:=by
 rw[QP]at h;cases h with
 |cons _ _ d0 _ _ _ g0 a b=>
 cases b with
 |cons _ _ d1 _ _ _ g1 c1 s1=>
 cases s1;cases g0 with
 |str z0=>
 cases g1 with
 |str e=>
 cases a with
 |str _ c=>
 exact⟨⟨_,_⟩,rfl,⟨c⟩,by simp only[kH,wD];omega⟩
theorem Ta(h:gw tt Pp 1048576 (bV tt 45) vs row)(I:kH row<=1048576):∃x:TE,row=gv x/\(x.ok/\x.fit)/\x.wt<=kH row:=by
 rw[Ti]at h;cases h with
 |cons _ _ d0 _ _ _ g0 N G=>
 cases G with
 |cons _ _ d1 _ _ _ g1 c1 s1=>
 cases s1 with
 |cons _ _ d2 _ _ _ g2 c2 s2=>
 cases s2 with
 |cons _ _ d3 _ _ _ g3 c3 K=>
 cases K with
 |cons _ _ d4 _ _ _ g4 M w=>
 cases w with
 |cons _ _ d5 _ _ _ g5 c5 O=>
 cases O with
 |cons _ _ d6 _ _ _ g6 L s=>
 cases s with
 |cons _ _ d7 _ _ _ g7 F C=>
 cases C with
 |cons _ _ d8 _ _ _ g8 z y=>
 cases y with
 |cons _ _ d9 _ _ _ g9 B A=>
 cases A with
 |cons _ _ d10 _ _ _ g10 l m=>
 cases m with
 |cons _ _ d11 _ _ _ g11 g o=>
 cases o;cases g0 with
 |str z0=>
 cases N with
 |str _ E=>
 simp only[kH,wD]at I;obtain⟨lp,rfl,c,a,i⟩:=GU g1 c1 yO;have k:=gw.cons _ _ _ _ _ _ g2 c2 (.cons _ _ _ _ _ _ g3 c3 (.cons _ _ _ _ _ _ g4 M (.cons _ _ _ _ _ _ g5 c5 (.cons _ _ _ _ _ _ g6 L .nil))));obtain⟨t,e,q,sz⟩:=BH 1048576 (by simp only[kH];omega) yD k;have b:=gw.cons _ _ _ _ _ _ g7 F (.cons _ _ _ _ _ _ g8 z (.cons _ _ _ _ _ _ g9 B (.cons _ _ _ _ _ _ g10 l (.cons _ _ _ _ _ _ g11 g .nil))));obtain⟨u,e2,r,f⟩:=BH 1048576 (by simp only[kH];omega) yD b;refine⟨⟨z0.data.toList,lp,t,u⟩,?_,⟨⟨yP,λp j=>(a p j).1.le,q.le,r.le⟩,⟨E,c,λp j=>(a p j).1,q,r⟩⟩,?_⟩
 ·unfold gv;rw[<- e,<-e2];rfl
 ·simp only[kH,wD,TE.wt]at sz f i ⊢;omega
theorem S9(h:gw tt Pp 1048576 (bV tt 99) vs row)(j:kH row<=1048576):∃x:VE,row=mJ x/\(x.ok/\x.fit)/\x.wt<=kH row:=by
 rw[QR]at h;cases h with
 |cons _ _ d0 _ _ _ g0 u q=>
 cases q with
 |cons _ _ d1 _ _ _ g1 c1 s1=>
 cases s1 with
 |cons _ _ d2 _ _ _ g2 c2 s2=>
 cases s2 with
 |cons _ _ d3 _ _ _ g3 c3 l=>
 cases l with
 |cons _ _ d4 _ _ _ g4 s m=>
 cases m with
 |cons _ _ d5 _ _ _ g5 c5 w=>
 cases w with
 |cons _ _ d6 _ _ _ g6 r k=>
 cases k;cases g0 with
 |str z0=>
 cases u with
 |str _ o=>
 simp only[kH,wD]at j;obtain⟨lp,rfl,c,a,g⟩:=GU g1 c1 yO;have f:=gw.cons _ _ _ _ _ _ g2 c2 (.cons _ _ _ _ _ _ g3 c3 (.cons _ _ _ _ _ _ g4 s (.cons _ _ _ _ _ _ g5 c5 (.cons _ _ _ _ _ _ g6 r .nil))));obtain⟨t,e,i,sz⟩:=BH 1048576 (by simp only[kH];omega) yD f;refine⟨⟨z0.data.toList,lp,t⟩,?_,⟨⟨yP,λp b=>(a p b).1.le,i.le⟩,⟨o,c,λp b=>(a p b).1,i⟩⟩,?_⟩
 ·unfold mJ;rw[<- e]
 ·simp only[kH,wD,VE.wt]at sz g ⊢;omega
theorem R0(x:IF):mq x<=x.wt:=by
 have:∀l:List TE,(l.map λx=>x.lower.size+x.upper.size).sum<=(l.map TE.wt).sum:=by
  intro l;induction l with
  |nil=>simp
  |cons y l a=>simp only[bO,ch,TE.wt]at a ⊢;omega
 have:=this x.types;unfold mq IF.wt;omega
theorem Tc(h:gw tt Pp 1048576 (bV tt 51) vs row)(o:kH row<=1048576):∃x:IF,row=dC x/\x.fit/\x.wt<=kH row:=by
 rw[Tj]at h;cases h with
 |cons _ _ d0 _ _ _ g0 E z=>
 cases z with
 |cons _ _ d1 _ _ _ g1 c1 s1=>
 cases s1 with
 |cons _ _ d2 _ _ _ g2 c2 s2=>
 cases s2 with
 |cons _ _ d3 _ _ _ g3 c3 A=>
 cases A with
 |cons _ _ d4 _ _ _ g4 C r=>
 cases r;cases g0 with
 |str z0=>
 cases E with
 |str _ w=>
 have j:=o;simp only[kH,wD]at o;obtain⟨l1,rfl,a1,a2,a3⟩:=ma (m:=1048576) (f:=gv) (λvs row hr i=>Ta hr i) g1 c1 yO;obtain⟨l2,rfl,b1,b2,s⟩:=ma (m:=1048576) (f:=mJ) (λvs row hr i=>S9 hr i) g2 c2 yO;obtain⟨c,rfl,u,F,l⟩:=ma (m:=1048576) (f:=rP) (g:=λ_=>1) (λvs row hr _=>Te hr) g3 c3 yO;obtain⟨e,rfl,q,B,k⟩:=ma (m:=1048576) (f:=vw) (g:=λ_=>1) (λvs row hr _=>Td hr) g4 C yO;have b:(IF.mk z0.data.toList l1 l2 c e).wt<=kH [D.str z0.data.toList,bH gv l1,bH mJ l2,bH rP c,bH vw e]:=by rw[Kl]at l k;simp only[kH,wD,IF.wt]at a3 s l k ⊢;omega
 refine⟨⟨z0.data.toList,l1,l2,c,e⟩,rfl,⟨⟨yP,yP,yP,yP,λy a=>(a2 y a).1,λy a=>(b2 y a).1⟩,w,bR (R0 _) (bR b j),a1,b1,u,q,λy a=>(a2 y a).2,λy a=>(b2 y a).2,F,B⟩,b⟩
theorem QN(h:RD tt Pp (.slice 51) v d)(hb:Bd 1048576 d)(k:wD d<=1048576):∃l:List IF,d=bH dC l/\dW l/\(∀i∈l,i.fit)/\(l.map IF.wt).sum+1<=wD d:=by obtain⟨l,e,a,b,c⟩:=ma (m:=1048576) (f:=dC) (λvs row hr g=>Tc hr g) h hb yO;exact⟨l,e,⟨yO,λi j=>(b i j).ok⟩,b,c⟩
end
variable {Pp:ga}{v:Value}
theorem PU{k:IntKind}{z:Int}(h:RD tt Pp (.int k) v (.int z)):VR tt [] Pp v (.int k z):=by cases h;exact .int _ _
theorem J7{z:S}(h:RD tt Pp .str v (.str z)):VR tt [] Pp v (.str z):=by cases h;exact .str _
section
variable {H:Type}{enc:TypeId×Value->H}{W:World}{n base:Nat}{v:Value}{d:DataW H}{p:List MemPlace}
variable {t:TypeId}
theorem HQ{ck:CK}(i:TS.contains t=true)(f:bV tt t=[ck]){a:Option Addr}{l c:Nat}(h:DataW.Trod enc Tryz.prog W 0 (λ_=>true) true t (.slice a l c) d p)(hb:YtefbdgenddbehaaGreatDoor.Rows.uptoBulk d<=1048576):
 ∃e,RD tt (Dc W) ck (.slice a l c) e/\Bd 1048576 e/\wD e<=YtefbdgenddbehaaGreatDoor.Rows.uptoBulk d:=by
 obtain⟨fuel,hf⟩:=h;obtain⟨ds,b,g⟩:=DA (n:=1048576) eX XQ (bulk:=YtefbdgenddbehaaGreatDoor.Rows.uptoBulk) Bk.ok fuel t _ _ i hf hb;rw[f]at b;cases b with
 |cons _ _ e _ _ _ h1 J t1=>cases t1;simp only[kH]at g;exact⟨e,h1,J,yO⟩
theorem Tr(f:t=23)(b:Value.okWide Tryz.prog W .any base t v)(h:DataW.Trod enc Tryz.prog W 0 (λ_=>true) true t v d p)(hb:YtefbdgenddbehaaGreatDoor.Rows.uptoBulk d<=1048576):
 ∃(e:D) (l:List IF),VR tt [] (Dc W) v (.lst 51 e)/\e=bH dC l/\dW l/\(∀i∈l,i.fit)/\(l.map IF.wt).sum<=1048576:=by
 subst f;obtain⟨a,len,cap,rfl⟩:=okWide_slice Tryz.underlying23 b;obtain⟨e,h1,J,h3⟩:=HQ yD (by kernel_rfl) h hb;obtain⟨l,c,hl,hf,g⟩:=QN h1 J yO;exact⟨e,l,.lst _ _ _ h1,c,hl,hf,yO⟩
theorem V4(f:t=25)(b:Value.okWide Tryz.prog W .any base t v)(h:DataW.Trod enc Tryz.prog W 0 (λ_=>true) true t v d p)(hb:YtefbdgenddbehaaGreatDoor.Rows.uptoBulk d<=1048576):
 ∃(e:D) (l:List Pm),VR tt [] (Dc W) v (.lst 56 e)/\e=bH ew l/\l.length<=1048576/\∀p∈l,p.bound.fit/\p.name.length<=1048576:=by
 subst f;obtain⟨a,len,cap,rfl⟩:=okWide_slice Tryz.underlying25 b;obtain⟨e,h1,J,h3⟩:=HQ yD (by kernel_rfl) h hb;obtain⟨l,c,hl,hf,g⟩:=GU h1 J yO;exact⟨e,l,.lst _ _ _ h1,c,hl,hf⟩
theorem Tq(m:Value.okWide Tryz.prog W .any base 29 v)(h:DataW.Trod enc Tryz.prog W 0 (λ_=>true) true 29 v d p)(hb:YtefbdgenddbehaaGreatDoor.Rows.uptoBulk d<=1048576):
 ∃(t:Ty) (g:Int) (c1 c2:S) (c f:D),VR tt [] (Dc W) v (df g c1 c2 c f)/\cD t g c1 c2 c f/\t.fit:=by
 obtain⟨cs,rfl,_⟩:=okWide_struct Tryz.underlying29 m;obtain⟨fuel,hf⟩:=h;obtain⟨ds,a,j⟩:=DA (n:=1048576) eX XQ (bulk:=YtefbdgenddbehaaGreatDoor.Rows.uptoBulk) Bk.ok fuel 29 _ _ yD hf hb;rw[PA]at a;generalize i:(Value.agg cs).cells.toList=vs at a;have b:cs=⟨vs⟩:=by rw[<- i];rfl
 subst b;clear i hf;obtain⟨t,e,fit,sz⟩:=BH 1048576 (bR j hb) yD a;subst e;rw[dI]at a;cases a with
 |cons _ _ _ _ _ _ g0 _ o=>
 cases o with
 |cons _ _ _ _ _ _ g1 _ s1=>
 cases s1 with
 |cons _ _ _ _ _ _ g2 _ s2=>
 cases s2 with
 |cons _ _ _ _ _ _ g3 _ k=>
 cases k with
 |cons _ _ _ _ _ _ g4 _ l=>
 cases l;exact⟨t,t.k,t.m,t.n,_,_,.agg _ _ (.cons _ _ _ _ (PU g0) (.cons _ _ _ _ (J7 g1) (.cons _ _ _ _ (J7 g2) (.cons _ _ _ _ (.lst _ _ _ g3) (.cons _ _ _ _ (.lst _ _ _ g4) .nil))))),⟨rfl,rfl,rfl,rfl,rfl⟩,fit⟩
end
variable {env:List IF}{ts:List Ty}
theorem Ty.pos:∀t:Ty,1<=t.size| .mk .. =>by rw[size_eq];omega
theorem Lf{l:List Pm}:l.length<=(l.map Pm.wt).sum:=by
 induction l with
 |nil=>simp
 |cons x l a=>simp only[bO,ch,bS,Pm.wt];omega
theorem AP(i:IF):(eP i).length<=i.wt:=by
 unfold eP;have h1:=ll (f:=fS) (g:=TE.wt) (l:=i.types) λx _=>by have:=Lf (l:=x.params);have:=Ty.pos x.lower;have:=Ty.pos x.upper;simp only[fS,TE.wt,bE,bS,cH,bQ];omega
 have J:=ll (f:=jh) (g:=VE.wt) (l:=i.values) λx _=>by have:=Lf (l:=x.params);have:=Ty.pos x.ty;simp only[jh,VE.wt,bE,bS,cH,bQ];omega
 rw[bE];unfold IF.wt;omega
theorem FJ{i:IF}(h:i.fit):∀t∈eP i,t.fit:=by
 intro t a;unfold eP fS jh at a;rcases bJ.1 a with a|a
 ·obtain⟨x,c,a⟩:=cN.1 a;have hf:=h.t x c;rcases bJ.1 a with a|a
  ·simp at a;rcases a with rfl|rfl
   ·exact hf.lo
   ·exact hf.up
  ·obtain⟨p,b,rfl⟩:=bT.1 a;exact hf.p p b
 ·obtain⟨x,c,a⟩:=cN.1 a;have hf:=h.v x c;rcases bJ.1 a with a|a
  ·simp at a;subst a;exact hf.ty
  ·obtain⟨p,b,rfl⟩:=bT.1 a;exact hf.p p b
theorem Kh(hf:∀i∈env,i.fit)(h:∀t∈ts,t.fit):∀t∈mo env ts,Wt t:=by
 intro t a
 have q:t.fit:=by
  rcases bJ.1 a with a|a
  ·exact h t a
  ·obtain⟨i,b,a⟩:=cN.1 a;exact FJ (hf i b) t a
 exact⟨q.le,bR q.sz yD⟩
theorem Hu(a:(env.map IF.wt).sum<=1048576)(h:ts.length<=1048580):(mo env ts).length<=4000000000:=by unfold mo;have:=ll (f:=eP) (g:=IF.wt) (l:=env) λi _=>AP i;rw[bE];omega
theorem xY(b:(env.map IF.wt).sum<=1048576):∀i∈env,(eP i).length<=4294967290:=λi a=>by have h1:=AP i;have J:i.wt<=(env.map IF.wt).sum:=tk a;omega
theorem CJ{t:Ty}(h:t.fit):t.enc:=⟨h.le,h.sz,h.mF⟩
theorem Pu{W:World}{laid:List (String×DataW Unit)}(h:W.ShapedOpen Tryz.prog)(hl:laidMetH Tryz.prog laid W)(c:(laid.all λx=>x.2.handleName?.isNone)=true)
 (i:("internal/strconv.uint64pow10",YtefbdgenddbehaaGreatDoor.Rows.laid_internal_strconv_uint64pow10)∈laid):Tz tt W:=by
 refine⟨?_,?_⟩
 ·intro b hb;rw[show wC tt=some 3 by kernel_rfl]at hb;cases hb;exact cell_of_shapedOpen_int (t:=3) (zero:= #[.int .i64 0]) h (of_decide_eq_true (by kernel_rfl)) (by kernel_rfl) rfl (by kernel_rfl) (by kernel_rfl) Tryz.underlying3
 ·intro g a;rw[show wB tt=[(0,.u64,we)]by kernel_rfl]at a;simp only[cU]at a;subst a;rw[MakeChecks.laidMetH_plain _ _ _ c]at hl;obtain⟨g,t,cs,fuel,p,h1,J,h3,h4⟩:=Lib.laidMet.reads hl i;obtain rfl:=fF ((show Tryz.prog.globalNamed "internal/strconv.uint64pow10" =some 0 by kernel_rfl).symm.trans h1);obtain rfl:=fF ((show (Tryz.prog.globals[0]?).map (·.type)=some 316 by kernel_rfl).symm.trans J);have hc:=Lib.cells_of_tab (e:=287) (n:=20) (k:=.u64) (zs:=we) (by kernel_rfl) (by kernel_rfl) (by kernel_rfl) (by kernel_rfl) h4;simp only[World.var?,h1,iY]at h3;split at h3
  ·rename_i j T f l;cases h3;exact⟨T,f,by rw[l,<-hc]⟩
  ·cases h3
end
end Go.VC.cK
namespace Go.Proofs.YtefbdgenddbehaaGreatDoor
open Go Go.VC Go.VC.cK
open Go.ChangeShapes Go.WideShapes Go.ChangeAt Go.RowKit
def Me:DataW Unit->List Value
 | .lit (.int k n)=>[.int k n]
 |_=>[]
def Md:DataW Unit->List Value
 | .agg ds=>ds.flatMap Me
 |d=>Me d
def zT:DataW Unit->List Value
 | .agg ds=>ds.flatMap Md
 |d=>Md d
def putCells(h:Array Obj)(g:Nat)(cs:List Value):Array Obj:=h.modify g fun
 | .cells _ t frozen=>.cells ⟨cs⟩ t frozen
 |o=>o
noncomputable def lL(os:Os):World:=
 let w0:=World.holding Tryz.prog os ⟨#[],#[],[]⟩
 { w0 with heap:=putCells (putCells (putCells (putCells (putCells w0.heap 1 (zT Rows.laid_math_bits_deBruijn32tab)) 2 (zT Rows.laid_math_bits_deBruijn64tab)) 0 (zT Rows.laid_internal_strconv_uint64pow10)) 5 (zT Rows.laid_unicode_utf8_acceptRanges)) 4 (zT Rows.laid_unicode_utf8_first) }
theorem EC(os:Os)(args:Array Value):laidMetH Tryz.prog Rows.subtypeValidUptoRow.laid ((lL os).forCall (λ_ _=>0) ⟨#[],args,[]⟩).memory:=laidMetH_of_parts3 (fuel:=8) (laidMet_of_run' 8 (by kernel_rfl) (by kernel_rfl)) (by kernel_rfl) (by kernel_rfl)
end Go.Proofs.YtefbdgenddbehaaGreatDoor
