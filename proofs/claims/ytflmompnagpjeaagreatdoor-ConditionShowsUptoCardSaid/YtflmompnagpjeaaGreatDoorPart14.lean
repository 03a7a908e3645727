/- Part 14 of the common texts. -/
import Derived.Lib.LaidU8
import Derived.MakeChecks
import Derived.Test.YtflmompnagpjeaaGreatDoorRows
import Derived.ProofKit
import Derived.OpenShut
import Derived.JoinedCond
import Derived.Deep.DeepHandedRow
import Derived.LaidMore
import Derived.LaidHandle
import Derived.LaidLaws
import Derived.Shelf.Vars
import Derived.Deep.DeepWitnessRowRef
import Derived.Test.YtflmompnagpjeaaGreatDoorPart9
set_option linter.all false
set_option maxRecDepth 100000
set_option maxHeartbeats 16000000
open List renaming length_append→bp,length_cons→bI,length_map→bA,length_nil→bZ,map_append→bS,map_cons→bF,map_map→ep,mem_append→bE,mem_cons→bx,mem_flatMap→cb,mem_map→bH,mem_singleton→cU,sum_append→dO,sum_cons→bV
open Nat renaming le_trans→bM
open Option renaming bind_some→iG
open Option.some renaming inj→lF
namespace Go.VC.cc
open Go Go.VC Go.Proofs
open Go.ChangeShapes Go.WideShapes Go.ChangeAt Go.RowKit
section
namespace Bk
open YtflmompnagpjeaaGreatDoor
variable {H:Type}
theorem one_le(d:DataW H):1<=Rows.uptoBulk d:=by
 cases d with
 |lit l=>cases l<;>simp[Rows.uptoBulk]
 |nil=>simp[Rows.uptoBulk]
 |ptr d=>simp[Rows.uptoBulk]
 |slice elems spare=>simp[Rows.uptoBulk]
 |agg parts=>simp[Rows.uptoBulk]
 |iface t d=>simp[Rows.uptoBulk]
 |map entries=>simp[Rows.uptoBulk]
 |held h=>simp[Rows.uptoBulk]
theorem xk{d:DataW H}:∀{l:List (DataW H)},d∈l->Rows.uptoBulk d<=Rows.uptoBulkAll l
 |x::r,h=>by
  simp only[Rows.uptoBulkAll];rcases bx.1 h with rfl|h
  ·omega
  ·have:=xk h;omega
theorem My:∀(l:List (DataW H)),l.length<=Rows.uptoBulkAll l
 |[]=>yS
 |x::r=>by have:=one_le x;have:=My r;simp only[Rows.uptoBulkAll,bI];omega
theorem Gu:∀(l:List (DataW H)),(l.map Rows.uptoBulk).sum=Rows.uptoBulkAll l
 |[]=>by simp[Rows.uptoBulkAll]
 |x::r=>by simp only[bF,bV,Rows.uptoBulkAll,Gu r]
theorem ok:N9 (H:=H) Rows.uptoBulk where
 str s:=by simp[Rows.uptoBulk]
 slice es sp:=⟨by have:=My es;simp only[Rows.uptoBulk];omega,λe he=>by have:=xk he;simp only[Rows.uptoBulk];omega⟩
 agg ps e he:=by have:=xk he;simp only[Rows.uptoBulk];omega
 ptr d:=by simp only[Rows.uptoBulk];omega
 one d:=one_le d
 Ue es sp:=by rw[Gu];simp only[Rows.uptoBulk];omega
 Uf ps:=by rw[Gu];simp only[Rows.uptoBulk];omega
end Bk
theorem own:ownKnob Tryz.prog.godebug=none:=by kernel_rfl
theorem laid:laidOutB Tryz.prog=true:=by kernel_rfl
abbrev TS:List TypeId:=[3,4,9,22,23,24,25,26,27,29,57,73,91,92,93,94,95,97,136,210,213]
theorem dat:TS.all (FB tt TS)=true:=by kernel_rfl
theorem noU:TS.all (Md tt)=true:=by kernel_rfl
theorem Lp{α:Type}{l:List α}:(l.map λ_=>1).sum=l.length:=by
 induction l with
 |nil=>simp
 |cons x l a=>simp only[bF,bV,bI];omega
section
variable {n:Nat}{Pp:fQ}
variable {vs:List Value}{row:List D}{v:Value}{d:D}
theorem ln{e:TypeId}{α:Type}{f:α->List D}{p:α->Prop}{g:α->Nat}{m:Nat}(dN:∀vs row,gb tt Pp n (bN tt e) vs row->jZ row<=m->∃x,row=f x/\p x/\g x<=jZ row)
 (h:RD tt Pp (.slice e) v d) (hb:Bd n d) (k:wD d<=m+1):∃l:List α,d=bt f l/\l.length<=n/\(∀x∈l,p x)/\(l.map g).sum+1<=wD d:=by
 obtain⟨rows,rfl,hl,hr⟩:=RD.rows h hb;simp only[wD]at k;obtain⟨l,rfl,j⟩:=lift_map (f:=f) (p:=λx=>p x/\g x<=jZ (f x)) (rows:=rows) (λr c=>by obtain⟨vs,o⟩:=hr r c;obtain⟨x,e1,e2,e3⟩:=dN vs r o (by have:=H7 c;omega);exact⟨x,e1,e2,by rw[<- e1];exact e3⟩);refine⟨l,rfl,yU hl,λx i=>(j x i).1,?_⟩;simp only[wD,Cb,ep]
 have:∀l:List α,(∀x∈l,g x<=jZ (f x))->(l.map g).sum<=(l.map (jZ∘f)).sum:=by
  intro l;induction l with
  |nil=>simp
  |cons x l q=>intro h;have a:=h x yS;have b:=q λy s=>h y (by simp[s]);simp only[bF,bV,Function.comp];omega
 have:=this l λx i=>(j x i).2;omega
theorem VZ:bN tt 29=[.int .i64,.str,.str,.slice 29,.slice 57]:=by kernel_rfl
theorem VV:bN tt 57=[.str,.int .i64,.str,.str,.slice 29,.slice 57,.bool]:=by kernel_rfl
theorem Fz:∀(m:Nat){vs:List Value}{row:List D},jZ row<=m->m<=1048578->gb tt Pp 1048576 [.int .i64,.str,.str,.slice 29,.slice 57] vs row->∃t:Ty,row=ca t/\t.fit/\t.size+3<=jZ row
 |0,vs,row,hm,_,h=>by
  cases h with
  |cons _ _ d _ _ _ h1 _ t1=>
  cases h1;simp only[jZ,wD]at hm;omega
 |m+1,vs,row,hm,O,h=>by
  have B:=λ{vs row} (h1:jZ row<=m)=>Fz m (vs:=vs) (row:=row) h1 yO;cases h with
  |cons _ _ _ _ _ _ h1 _ t1=>
  cases t1 with
  |cons _ _ _ _ _ _ J b2 t2=>
  cases t2 with
  |cons _ _ _ _ _ _ h3 L t3=>
  cases t3 with
  |cons _ _ d4 _ _ _ h4 P t4=>
  cases t4 with
  |cons _ _ d5 _ _ _ h5 F t5=>
  cases t5;cases h1 with
  |int _ s=>
  cases J with
  |str z2=>
  cases h3 with
  |str z3=>
  cases b2 with
  |str _ z=>
  cases L with
  |str _ w=>
  have N:=hm;simp only[jZ,wD]at hm;obtain⟨k,rfl,q,l,G⟩:=ln (f:=ca) (p:=Ty.fit) (g:=Ty.size) (m:=m) (λvs row hr j=>by rw[VZ]at hr;obtain⟨t,a,b,c⟩:=B j hr;exact⟨t,a,b,yO⟩) h4 P yO
  obtain⟨e,rfl,A,i,K⟩:=ln (f:=fj) (p:=λf=>f.t.fit/\f.s.length<=1048576) (g:=λf=>f.t.size) (m:=m) (λvs row hr j=>by
   rw[VV]at hr;cases hr with
   |cons _ _ _ _ _ _ g0 U M=>
   cases M with
   |cons _ _ _ _ _ _ g1 c1 s1=>
   cases s1 with
   |cons _ _ _ _ _ _ g2 c2 s2=>
   cases s2 with
   |cons _ _ _ _ _ _ g3 c3 R=>
   cases R with
   |cons _ _ _ _ _ _ g4 T E=>
   cases E with
   |cons _ _ _ _ _ _ g5 c5 V=>
   cases V with
   |cons _ _ _ _ _ _ g6 _ C=>
   cases C;cases g0 with
   |str S=>
   cases U with
   |str _ r=>
   cases g6 with
   |bool I=>
   have y:=gb.cons _ _ _ _ _ _ g1 c1 (.cons _ _ _ _ _ _ g2 c2 (.cons _ _ _ _ _ _ g3 c3 (.cons _ _ _ _ _ _ g4 T (.cons _ _ _ _ _ _ g5 c5 .nil))));simp only[jZ,wD]at j;obtain⟨t,a,b,c⟩:=B (by simp only[jZ];omega) y;refine⟨.mk S.data.toList t I,?_,⟨b,r⟩,?_⟩
   ·show _=D.str _::(ca t++[D.bool _]);rw[<- a];rfl
   ·simp only[jZ,wD]at c ⊢;show t.size<=_;omega) h5 F yO
  have fW:(Ty.mk s z2.data.toList z3.data.toList k e).size+3<=jZ [D.int s,D.str z2.data.toList,D.str z3.data.toList,bt ca k,bt fj e]:=by rw[size_eq];show 1+(((k++e.map Fe.t).map Ty.size).sum)+3<=_;simp only[jZ,wD]at*;rw[bS,dO,ep];have:(e.map (Ty.size∘Fe.t)).sum=(e.map λf=>f.t.size).sum:=rfl;omega
  refine⟨.mk s z2.data.toList z3.data.toList k e,?_,⟨?_,?_,?_⟩,fW⟩
  ·rw[dn];rfl
  ·exact .mk _ (bM q yD) (bM A yD) (λu hu=>(l u hu).le) (λf hf=>(i f hf).1.le)
  ·omega
  ·intro u hu;rw[all_eq]at hu;rcases bx.1 hu with rfl|hu
   ·exact⟨z,w,λx Q=>(i x Q).2⟩
   ·obtain⟨v,o,hu⟩:=cb.1 hu;rcases bE.1 (show v∈k++e.map Fe.t from o)with o|o
    ·exact(l v o).me u hu
    ·obtain⟨f,hf,rfl⟩:=bH.1 o;exact(i f hf).1.me u hu
theorem VW:bN tt 73=[.str,.int .i64,.int .i64,.str,.str,.slice 29,.slice 57]:=by kernel_rfl
theorem VX:bN tt 136=[.str,.slice 73,.int .i64,.str,.str,.slice 29,.slice 57,.int .i64,.str,.str,.slice 29,.slice 57]:=by kernel_rfl
theorem SO:bN tt 91=[.str,.slice 73,.int .i64,.str,.str,.slice 29,.slice 57]:=by kernel_rfl
theorem SN:bN tt 210=[.str,.str,.str]:=by kernel_rfl
theorem SM:bN tt 213=[.str,.str]:=by kernel_rfl
theorem VY:bN tt 97=[.str,.slice 136,.slice 91,.slice 210,.slice 213]:=by kernel_rfl
theorem VO(h:gb tt Pp 1048576 (bN tt 73) vs row)(b:jZ row<=1048576):∃x:Pm,row=dB x/\(x.bound.fit/\x.name.length<=1048576)/\x.wt<=jZ row:=by
 rw[VW]at h;cases h with
 |cons _ _ d0 _ _ _ g0 o k=>
 cases k with
 |cons _ _ d1 _ _ _ g1 c1 s1=>
 cases s1 with
 |cons _ _ d2 _ _ _ g2 c2 s2=>
 cases s2 with
 |cons _ _ d3 _ _ _ g3 c3 f=>
 cases f with
 |cons _ _ d4 _ _ _ g4 m g=>
 cases g with
 |cons _ _ d5 _ _ _ g5 c5 q=>
 cases q with
 |cons _ _ d6 _ _ _ g6 l c=>
 cases c;cases g0 with
 |str z0=>
 cases o with
 |str _ i=>
 cases g1 with
 |int _ j=>
 have a:=gb.cons _ _ _ _ _ _ g2 c2 (.cons _ _ _ _ _ _ g3 c3 (.cons _ _ _ _ _ _ g4 m (.cons _ _ _ _ _ _ g5 c5 (.cons _ _ _ _ _ _ g6 l .nil))));simp only[jZ,wD]at b;obtain⟨t,e,fit,sz⟩:=Fz 1048576 (by simp only[jZ];omega) yD a;refine⟨⟨z0.data.toList,j,t⟩,?_,⟨fit,i⟩,?_⟩
 ·unfold dB;rw[<- e]
 ·simp only[jZ,wD,Pm.wt]at sz ⊢;omega
theorem Nl(h:RD tt Pp (.slice 73) v d)(hb:Bd 1048576 d)(b:wD d<=1048576):∃l:List Pm,d=bt dB l/\l.length<=1048576/\(∀x∈l,x.bound.fit/\x.name.length<=1048576)/\(l.map Pm.wt).sum+1<=wD d:=ln (m:=1048576) (λvs row hr a=>VO hr a) h hb yO
theorem VS(h:gb tt Pp 1048576 (bN tt 210) vs row):∃x:AE,row=qW x/\x.fit/\1<=jZ row:=by
 rw[SN]at h;cases h with
 |cons _ _ d0 _ _ _ g0 a b=>
 cases b with
 |cons _ _ d1 _ _ _ g1 c1 s1=>
 cases s1 with
 |cons _ _ d2 _ _ _ g2 c2 s2=>
 cases s2;cases g0 with
 |str z0=>
 cases g1 with
 |str e=>
 cases g2 with
 |str z2=>
 cases a with
 |str _ c=>
 cases c2 with
 |str _ b2=>
 exact⟨⟨_,_,_⟩,rfl,⟨c,b2⟩,by simp only[jZ,wD];omega⟩
theorem VQ(h:gb tt Pp 1048576 (bN tt 213) vs row):∃x:DE,row=uy x/\x.fit/\1<=jZ row:=by
 rw[SM]at h;cases h with
 |cons _ _ d0 _ _ _ g0 a b=>
 cases b with
 |cons _ _ d1 _ _ _ g1 c1 s1=>
 cases s1;cases g0 with
 |str z0=>
 cases g1 with
 |str e=>
 cases a with
 |str _ c=>
 exact⟨⟨_,_⟩,rfl,⟨c⟩,by simp only[jZ,wD];omega⟩
theorem VN(h:gb tt Pp 1048576 (bN tt 136) vs row)(I:jZ row<=1048576):∃x:TE,row=fZ x/\(x.ok/\x.fit)/\x.wt<=jZ row:=by
 rw[VX]at h;cases h with
 |cons _ _ d0 _ _ _ g0 N G=>
 cases G with
 |cons _ _ d1 _ _ _ g1 c1 s1=>
 cases s1 with
 |cons _ _ d2 _ _ _ g2 c2 s2=>
 cases s2 with
 |cons _ _ d3 _ _ _ g3 c3 K=>
 cases K with
 |cons _ _ d4 _ _ _ g4 M w=>
 cases w with
 |cons _ _ d5 _ _ _ g5 c5 O=>
 cases O with
 |cons _ _ d6 _ _ _ g6 L s=>
 cases s with
 |cons _ _ d7 _ _ _ g7 F C=>
 cases C with
 |cons _ _ d8 _ _ _ g8 z y=>
 cases y with
 |cons _ _ d9 _ _ _ g9 B A=>
 cases A with
 |cons _ _ d10 _ _ _ g10 l m=>
 cases m with
 |cons _ _ d11 _ _ _ g11 g o=>
 cases o;cases g0 with
 |str z0=>
 cases N with
 |str _ E=>
 simp only[jZ,wD]at I;obtain⟨lp,rfl,c,a,i⟩:=Nl g1 c1 yO;have k:=gb.cons _ _ _ _ _ _ g2 c2 (.cons _ _ _ _ _ _ g3 c3 (.cons _ _ _ _ _ _ g4 M (.cons _ _ _ _ _ _ g5 c5 (.cons _ _ _ _ _ _ g6 L .nil))));obtain⟨t,e,q,sz⟩:=Fz 1048576 (by simp only[jZ];omega) yD k;have b:=gb.cons _ _ _ _ _ _ g7 F (.cons _ _ _ _ _ _ g8 z (.cons _ _ _ _ _ _ g9 B (.cons _ _ _ _ _ _ g10 l (.cons _ _ _ _ _ _ g11 g .nil))));obtain⟨u,e2,r,f⟩:=Fz 1048576 (by simp only[jZ];omega) yD b;refine⟨⟨z0.data.toList,lp,t,u⟩,?_,⟨⟨yP,λp j=>(a p j).1.le,q.le,r.le⟩,⟨E,c,λp j=>(a p j).1,q,r⟩⟩,?_⟩
 ·unfold fZ;rw[<- e,<-e2];rfl
 ·simp only[jZ,wD,TE.wt]at sz f i ⊢;omega
theorem VM(h:gb tt Pp 1048576 (bN tt 91) vs row)(j:jZ row<=1048576):∃x:VE,row=mj x/\(x.ok/\x.fit)/\x.wt<=jZ row:=by
 rw[SO]at h;cases h with
 |cons _ _ d0 _ _ _ g0 u q=>
 cases q with
 |cons _ _ d1 _ _ _ g1 c1 s1=>
 cases s1 with
 |cons _ _ d2 _ _ _ g2 c2 s2=>
 cases s2 with
 |cons _ _ d3 _ _ _ g3 c3 l=>
 cases l with
 |cons _ _ d4 _ _ _ g4 s m=>
 cases m with
 |cons _ _ d5 _ _ _ g5 c5 w=>
 cases w with
 |cons _ _ d6 _ _ _ g6 r k=>
 cases k;cases g0 with
 |str z0=>
 cases u with
 |str _ o=>
 simp only[jZ,wD]at j;obtain⟨lp,rfl,c,a,g⟩:=Nl g1 c1 yO;have f:=gb.cons _ _ _ _ _ _ g2 c2 (.cons _ _ _ _ _ _ g3 c3 (.cons _ _ _ _ _ _ g4 s (.cons _ _ _ _ _ _ g5 c5 (.cons _ _ _ _ _ _ g6 r .nil))));obtain⟨t,e,i,sz⟩:=Fz 1048576 (by simp only[jZ];omega) yD f;refine⟨⟨z0.data.toList,lp,t⟩,?_,⟨⟨yP,λp b=>(a p b).1.le,i.le⟩,⟨o,c,λp b=>(a p b).1,i⟩⟩,?_⟩
 ·unfold mj;rw[<- e]
 ·simp only[jZ,wD,VE.wt]at sz g ⊢;omega
theorem Ur(x:IF):lJ x<=x.wt:=by
 have:∀l:List TE,(l.map λx=>x.lower.size+x.upper.size).sum<=(l.map TE.wt).sum:=by
  intro l;induction l with
  |nil=>simp
  |cons y l a=>simp only[bF,bV,TE.wt]at a ⊢;omega
 have:=this x.types;unfold lJ IF.wt;omega
theorem VP(h:gb tt Pp 1048576 (bN tt 97) vs row)(e:jZ row<=1048576):∃x:IF,row=dy x/\x.fit/\x.wt<=jZ row:=by
 rw[VY]at h;cases h with
 |cons _ _ d0 _ _ _ g0 z s=>
 cases s with
 |cons _ _ d1 _ _ _ g1 c1 s1=>
 cases s1 with
 |cons _ _ d2 _ _ _ g2 c2 s2=>
 cases s2 with
 |cons _ _ d3 _ _ _ g3 c3 o=>
 cases o with
 |cons _ _ d4 _ _ _ g4 u q=>
 cases q;cases g0 with
 |str z0=>
 cases z with
 |str _ r=>
 have c:=e;simp only[jZ,wD]at e;obtain⟨l1,rfl,a1,a2,a3⟩:=ln (m:=1048576) (f:=fZ) (λvs row hr b=>VN hr b) g1 c1 yO;obtain⟨l2,rfl,b1,b2,w⟩:=ln (m:=1048576) (f:=mj) (λvs row hr b=>VM hr b) g2 c2 yO;obtain⟨l3,rfl,k,A,i⟩:=ln (m:=1048576) (f:=qW) (g:=λ_=>1) (λvs row hr _=>VS hr) g3 c3 yO;obtain⟨l4,rfl,l,t,j⟩:=ln (m:=1048576) (f:=uy) (g:=λ_=>1) (λvs row hr _=>VQ hr) g4 u yO;have mi:(IF.mk z0.data.toList l1 l2 l3 l4).wt<=jZ [D.str z0.data.toList,bt fZ l1,bt mj l2,bt qW l3,bt uy l4]:=by rw[Lp]at i j;simp only[jZ,wD,IF.wt]at a3 w i j ⊢;omega
 refine⟨⟨z0.data.toList,l1,l2,l3,l4⟩,rfl,⟨⟨yP,yP,yP,yP,λy a=>(a2 y a).1,λy a=>(b2 y a).1⟩,r,bM (Ur _) (bM mi c),a1,b1,k,l,λy a=>(a2 y a).2,λy a=>(b2 y a).2,A,t⟩,mi⟩
theorem SK(h:RD tt Pp (.slice 97) v d)(hb:Bd 1048576 d)(k:wD d<=1048576):∃l:List IF,d=bt dy l/\ey l/\(∀i∈l,i.fit)/\(l.map IF.wt).sum+1<=wD d:=by obtain⟨l,e,a,b,c⟩:=ln (m:=1048576) (f:=dy) (λvs row hr g=>VP hr g) h hb yO;exact⟨l,e,⟨yO,λi j=>(b i j).ok⟩,b,c⟩
end
section
variable {H:Type}{enc:TypeId×Value->H}{W:World}{n base:Nat}{v:Value}{d:DataW H}{p:List MemPlace}
theorem Pg{t:TypeId}{ck:CK}(i:TS.contains t=true)(f:bN tt t=[ck]){a:Option Addr}{l c:Nat}(h:DataW.Trod enc Tryz.prog W 0 (λ_=>true) true t (.slice a l c) d p)(hb:YtflmompnagpjeaaGreatDoor.Rows.uptoBulk d<=1048576):
 ∃e,RD tt (F3 W) ck (.slice a l c) e/\Bd 1048576 e/\wD e<=YtflmompnagpjeaaGreatDoor.Rows.uptoBulk d:=by
 obtain⟨fuel,hf⟩:=h;obtain⟨ds,b,g⟩:=Lj (n:=1048576) fD dat noU (bulk:=YtflmompnagpjeaaGreatDoor.Rows.uptoBulk) Bk.ok fuel t _ _ i hf hb;rw[f]at b;cases b with
 |cons _ _ e _ _ _ h1 J t1=>cases t1;simp only[jZ]at g;exact⟨e,h1,J,yO⟩
theorem V3{t:TypeId}(c:t=23)(b:Value.okWide Tryz.prog W .any base t v)(h:DataW.Trod enc Tryz.prog W 0 (λ_=>true) true t v d p)(hb:YtflmompnagpjeaaGreatDoor.Rows.uptoBulk d<=1048576):
 ∃(e:D) (l:List IF),VR tt [] (F3 W) v (.lst 97 e)/\e=bt dy l/\ey l/\(∀i∈l,i.fit)/\(l.map IF.wt).sum<=1048576:=by
 subst c;obtain⟨a,len,cap,rfl⟩:=okWide_slice Tryz.underlying23 b;obtain⟨e,h1,J,h3⟩:=Pg yD (by kernel_rfl) h hb;obtain⟨l,he,hl,hf,f⟩:=SK h1 J yO;exact⟨e,l,.lst _ _ _ h1,he,hl,hf,yO⟩
end
theorem Ty.pos:∀t:Ty,1<=t.size| .mk .. =>by rw[size_eq];omega
theorem Mx{l:List Pm}:l.length<=(l.map Pm.wt).sum:=by
 induction l with
 |nil=>simp
 |cons x l a=>simp only[bF,bV,bI,Pm.wt];omega
theorem AS(i:IF):(cW i).length<=i.wt:=by
 unfold cW;have h1:=lx (f:=eL) (g:=TE.wt) (l:=i.types) λx _=>by have:=Mx (l:=x.params);have:=Ty.pos x.lower;have:=Ty.pos x.upper;simp only[eL,TE.wt,bp,bI,bZ,bA];omega
 have J:=lx (f:=fU) (g:=VE.wt) (l:=i.values) λx _=>by have:=Mx (l:=x.params);have:=Ty.pos x.ty;simp only[fU,VE.wt,bp,bI,bZ,bA];omega
 rw[bp];unfold IF.wt;omega
theorem RP{env:List IF}(hf:∀i∈env,i.fit){ts:List Ty}(h:∀t∈ts,t.fit):∀t∈kL env ts,Wt t:=by
 intro t a
 have q:t.fit:=by
  rcases bE.1 a with a|a
  ·exact h t a
  ·obtain⟨i,b,a⟩:=cb.1 a;exact sJ (hf i b) t a
 exact⟨q.le,bM q.sz yD⟩
theorem Gn{env:List IF}(b:(env.map IF.wt).sum<=1048576):∀i∈env,(cW i).length<=4294967290:=λi a=>by have h1:=AS i;have J:i.wt<=(env.map IF.wt).sum:=ql a;omega
theorem UU{W:World}{laid:List (String×DataW Unit)}(h:W.ShapedOpen Tryz.prog)(hl:laidMetH Tryz.prog laid W)(c:(laid.all λx=>x.2.handleName?.isNone)=true)
 (i:("internal/strconv.uint64pow10",YtflmompnagpjeaaGreatDoor.Rows.laid_internal_strconv_uint64pow10)∈laid):WV tt W:=by
 refine⟨?_,?_⟩
 ·intro b hb;rw[show vM tt=some 3 by kernel_rfl]at hb;cases hb;exact cell_of_shapedOpen_int (t:=3) (zero:= #[.int .i64 0]) h (of_decide_eq_true (by kernel_rfl)) (by kernel_rfl) rfl (by kernel_rfl) (by kernel_rfl) Tryz.underlying3
 ·intro g a;rw[show vL tt=[(0,.u64,Lib.pow10Tab)]by kernel_rfl]at a;simp only[cU]at a;subst a;rw[MakeChecks.laidMetH_plain _ _ _ c]at hl;obtain⟨g,t,cs,fuel,p,h1,J,h3,h4⟩:=Lib.laidMet.reads hl i;obtain rfl:=lF ((show Tryz.prog.globalNamed "internal/strconv.uint64pow10" =some 0 by kernel_rfl).symm.trans h1);obtain rfl:=lF ((show (Tryz.prog.globals[0]?).map (·.type)=some 320 by kernel_rfl).symm.trans J);have hc:=Lib.cells_of_tab (e:=281) (n:=20) (k:=.u64) (zs:=Lib.pow10Tab) (by kernel_rfl) (by kernel_rfl) (by kernel_rfl) (by kernel_rfl) h4;simp only[World.var?,h1,iG]at h3;split at h3
  ·rename_i j T f l;cases h3;exact⟨T,f,by rw[l,<-hc]⟩
  ·cases h3
end
end Go.VC.cc
namespace Go.Proofs.YtflmompnagpjeaaGreatDoor
open Go Go.VC Go.VC.cc
open Go.ChangeShapes Go.WideShapes Go.ChangeAt Go.RowKit
def Ns:DataW Unit->List Value
 | .lit (.int k n)=>[.int k n]
 |_=>[]
def Nr:DataW Unit->List Value
 | .agg ds=>ds.flatMap Ns
 |d=>Ns d
def zT:DataW Unit->List Value
 | .agg ds=>ds.flatMap Nr
 |d=>Nr d
def putCells(h:Array Obj)(g:Nat)(cs:List Value):Array Obj:=h.modify g fun
 | .cells _ t frozen=>.cells ⟨cs⟩ t frozen
 |o=>o
noncomputable def rL(os:Os):World:=
 let w0:=World.holding Tryz.prog os ⟨#[],#[],[]⟩
 { w0 with heap:=putCells (putCells (putCells (putCells (putCells w0.heap 1 (zT Rows.laid_math_bits_deBruijn32tab)) 2 (zT Rows.laid_math_bits_deBruijn64tab)) 0 (zT Rows.laid_internal_strconv_uint64pow10)) 5 (zT Rows.laid_unicode_utf8_acceptRanges)) 4 (zT Rows.laid_unicode_utf8_first) }
theorem MD(os:Os)(args:Array Value):laidMetH Tryz.prog Rows.derivationNeedsUptoRow.laid ((rL os).forCall (λ_ _=>0) ⟨#[],args,[]⟩).memory:=laidMetH_of_parts3 (fuel:=8) (laidMet_of_run' 8 (by kernel_rfl) (by kernel_rfl)) (by kernel_rfl) (by kernel_rfl)
end Go.Proofs.YtflmompnagpjeaaGreatDoor
namespace Go.VC.cc
open Go Go.VC Go.Proofs
open Go.ChangeShapes Go.WideShapes Go.ChangeAt Go.RowKit
theorem aaf{H:Type}{enc:TypeId×Value->H}{W:World}{base:Nat}{v:Value}{d:DataW H}{p:List MemPlace}(a:Value.okWide Tryz.prog W .any base 9 v)(h:DataW.Trod enc Tryz.prog W 0 (λ_=>true) true 9 v d p):
 ∃s:List UInt8,VR tt [] (F3 W) v (.str s):=by
 obtain⟨s,rfl,rfl,rfl,_⟩:=ChangeMaps.open_string Tryz.underlying9 a h;exact⟨_,.str _⟩
theorem uw{e:D}{l:List IF}(h1:e=bt dy l)(J:ey l)(h3:∀i∈l,i.fit)(h4:(l.map IF.wt).sum<=1048576):HS l e:=by
 refine⟨h1,J,h3,bM h4 yD,Gn h4,?_,?_⟩
 ·have:=RP h3 (ts:=[]) yS;unfold kL at this;simpa using this
 ·have:=lx (f:=cW) (g:=IF.wt) (l:=l) λi _=>AS i;omega
end Go.VC.cc
