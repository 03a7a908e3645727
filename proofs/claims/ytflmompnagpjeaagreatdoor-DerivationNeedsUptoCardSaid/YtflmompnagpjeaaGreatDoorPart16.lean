/- Part 16 of the common texts. -/
import Derived.Lib.LaidU8
import Derived.MakeChecks
import Derived.Test.YtflmompnagpjeaaGreatDoorRows
import Derived.ProofKit
import Derived.OpenShut
import Derived.JoinedCond
import Derived.Deep.DeepHandedRow
import Derived.LaidMore
import Derived.LaidHandle
import Derived.LaidLaws
import Derived.Shelf.Vars
import Derived.Deep.DeepWitnessRowRef
import Derived.Test.YtflmompnagpjeaaGreatDoorPart9
set_option linter.all false
set_option maxRecDepth 100000
set_option maxHeartbeats 16000000
open List renaming length_append→bt,length_cons→bM,length_map→bL,length_nil→bX,map_append→cj,map_cons→bJ,map_map→ia,mem_append→bG,mem_cons→bN,mem_flatMap→dp,mem_map→bP,mem_singleton→df,sum_append→dQ,sum_cons→cm
open Nat renaming le_trans→bQ
open Option renaming bind_some→iy
open Option.some renaming inj→iH
namespace Go.VC.cG
open Go Go.VC Go.Proofs
open Go.ChangeShapes Go.WideShapes Go.ChangeAt Go.RowKit
section
namespace Bk
open YtflmompnagpjeaaGreatDoor
variable {H:Type}
theorem one_le(d:DataW H):1<=Rows.uptoBulk d:=by
 cases d with
 |lit l=>cases l<;>simp[Rows.uptoBulk]
 |nil=>simp[Rows.uptoBulk]
 |ptr d=>simp[Rows.uptoBulk]
 |slice elems spare=>simp[Rows.uptoBulk]
 |agg parts=>simp[Rows.uptoBulk]
 |iface t d=>simp[Rows.uptoBulk]
 |map entries=>simp[Rows.uptoBulk]
 |held h=>simp[Rows.uptoBulk]
theorem wH{d:DataW H}:∀{l:List (DataW H)},d∈l->Rows.uptoBulk d<=Rows.uptoBulkAll l
 |x::r,h=>by
  simp only[Rows.uptoBulkAll];rcases bN.1 h with rfl|h
  ·omega
  ·have:=wH h;omega
theorem Ll:∀(l:List (DataW H)),l.length<=Rows.uptoBulkAll l
 |[]=>yS
 |x::r=>by have:=one_le x;have:=Ll r;simp only[Rows.uptoBulkAll,bM];omega
theorem Fo:∀(l:List (DataW H)),(l.map Rows.uptoBulk).sum=Rows.uptoBulkAll l
 |[]=>by simp[Rows.uptoBulkAll]
 |x::r=>by simp only[bJ,cm,Rows.uptoBulkAll,Fo r]
theorem ok:Nl (H:=H) Rows.uptoBulk where
 str s:=by simp[Rows.uptoBulk]
 slice es sp:=⟨by have:=Ll es;simp only[Rows.uptoBulk];omega,λe he=>by have:=wH he;simp only[Rows.uptoBulk];omega⟩
 agg ps e he:=by have:=wH he;simp only[Rows.uptoBulk];omega
 ptr d:=by simp only[Rows.uptoBulk];omega
 one d:=one_le d
 S5 es sp:=by rw[Fo];simp only[Rows.uptoBulk];omega
 S6 ps:=by rw[Fo];simp only[Rows.uptoBulk];omega
end Bk
theorem own:ownKnob Tryz.prog.godebug=none:=by kernel_rfl
theorem laid:laidOutB Tryz.prog=true:=by kernel_rfl
abbrev TS:List TypeId:=[3,4,9,22,23,24,25,26,27,29,57,73,91,92,93,94,95,97,136,210,213]
theorem ZZ:TS.all (Es tt TS)=true:=by kernel_rfl
theorem ZV:TS.all (K3 tt)=true:=by kernel_rfl
theorem Kf{α:Type}{l:List α}:(l.map λ_=>1).sum=l.length:=by
 induction l with
 |nil=>simp
 |cons x l a=>simp only[bJ,cm,bM];omega
section
variable {n:Nat}{Pp:fE}
variable {vs:List Value}{row:List D}{v:Value}{d:D}
theorem lj{e:TypeId}{α:Type}{f:α->List D}{p:α->Prop}{g:α->Nat}{m:Nat}(dG:∀vs row,ga tt Pp n (bR tt e) vs row->jV row<=m->∃x,row=f x/\p x/\g x<=jV row)
 (h:RD tt Pp (.slice e) v d) (hb:Bd n d) (k:wD d<=m+1):∃l:List α,d=bA f l/\l.length<=n/\(∀x∈l,p x)/\(l.map g).sum+1<=wD d:=by
 obtain⟨rows,rfl,hl,hr⟩:=RD.rows h hb;simp only[wD]at k;obtain⟨l,rfl,j⟩:=lift_map (f:=f) (p:=λx=>p x/\g x<=jV (f x)) (rows:=rows) (λr c=>by obtain⟨vs,o⟩:=hr r c;obtain⟨x,e1,e2,e3⟩:=dG vs r o (by have:=G5 c;omega);exact⟨x,e1,e2,by rw[<- e1];exact e3⟩);refine⟨l,rfl,yU hl,λx i=>(j x i).1,?_⟩;simp only[wD,Br,ia]
 have:∀l:List α,(∀x∈l,g x<=jV (f x))->(l.map g).sum<=(l.map (jV∘f)).sum:=by
  intro l;induction l with
  |nil=>simp
  |cons x l q=>intro h;have a:=h x yS;have b:=q λy s=>h y (by simp[s]);simp only[bJ,cm,Function.comp];omega
 have:=this l λx i=>(j x i).2;omega
theorem Qe:bR tt 29=[.int .i64,.str,.str,.slice 29,.slice 57]:=by kernel_rfl
theorem UG:bR tt 57=[.str,.int .i64,.str,.str,.slice 29,.slice 57,.bool]:=by kernel_rfl
theorem A3:∀(m:Nat){vs:List Value}{row:List D},jV row<=m->m<=1048578->ga tt Pp 1048576 [.int .i64,.str,.str,.slice 29,.slice 57] vs row->∃t:Ty,row=cq t/\t.fit/\t.size+3<=jV row
 |0,vs,row,hm,_,h=>by
  cases h with
  |cons _ _ d _ _ _ h1 _ t1=>
  cases h1;simp only[jV,wD]at hm;omega
 |m+1,vs,row,hm,O,h=>by
  have B:=λ{vs row} (h1:jV row<=m)=>A3 m (vs:=vs) (row:=row) h1 yO;cases h with
  |cons _ _ _ _ _ _ h1 _ t1=>
  cases t1 with
  |cons _ _ _ _ _ _ J b2 t2=>
  cases t2 with
  |cons _ _ _ _ _ _ h3 L t3=>
  cases t3 with
  |cons _ _ d4 _ _ _ h4 P t4=>
  cases t4 with
  |cons _ _ d5 _ _ _ h5 F t5=>
  cases t5;cases h1 with
  |int _ s=>
  cases J with
  |str z2=>
  cases h3 with
  |str z3=>
  cases b2 with
  |str _ z=>
  cases L with
  |str _ w=>
  have N:=hm;simp only[jV,wD]at hm;obtain⟨k,rfl,q,l,G⟩:=lj (f:=cq) (p:=Ty.fit) (g:=Ty.size) (m:=m) (λvs row hr j=>by rw[Qe]at hr;obtain⟨t,a,b,c⟩:=B j hr;exact⟨t,a,b,yO⟩) h4 P yO
  obtain⟨e,rfl,A,i,K⟩:=lj (f:=eZ) (p:=λf=>f.t.fit/\f.s.length<=1048576) (g:=λf=>f.t.size) (m:=m) (λvs row hr j=>by
   rw[UG]at hr;cases hr with
   |cons _ _ _ _ _ _ g0 U M=>
   cases M with
   |cons _ _ _ _ _ _ g1 c1 s1=>
   cases s1 with
   |cons _ _ _ _ _ _ g2 c2 s2=>
   cases s2 with
   |cons _ _ _ _ _ _ g3 c3 R=>
   cases R with
   |cons _ _ _ _ _ _ g4 T E=>
   cases E with
   |cons _ _ _ _ _ _ g5 c5 V=>
   cases V with
   |cons _ _ _ _ _ _ g6 _ C=>
   cases C;cases g0 with
   |str S=>
   cases U with
   |str _ r=>
   cases g6 with
   |bool I=>
   have y:=ga.cons _ _ _ _ _ _ g1 c1 (.cons _ _ _ _ _ _ g2 c2 (.cons _ _ _ _ _ _ g3 c3 (.cons _ _ _ _ _ _ g4 T (.cons _ _ _ _ _ _ g5 c5 .nil))));simp only[jV,wD]at j;obtain⟨t,a,b,c⟩:=B (by simp only[jV];omega) y;refine⟨.mk S.data.toList t I,?_,⟨b,r⟩,?_⟩
   ·show _=D.str _::(cq t++[D.bool _]);rw[<- a];rfl
   ·simp only[jV,wD]at c ⊢;show t.size<=_;omega) h5 F yO
  have fh:(Ty.mk s z2.data.toList z3.data.toList k e).size+3<=jV [D.int s,D.str z2.data.toList,D.str z3.data.toList,bA cq k,bA eZ e]:=by rw[size_eq];show 1+(((k++e.map Fe.t).map Ty.size).sum)+3<=_;simp only[jV,wD]at*;rw[cj,dQ,ia];have:(e.map (Ty.size∘Fe.t)).sum=(e.map λf=>f.t.size).sum:=rfl;omega
  refine⟨.mk s z2.data.toList z3.data.toList k e,?_,⟨?_,?_,?_⟩,fh⟩
  ·rw[dk];rfl
  ·exact .mk _ (bQ q yD) (bQ A yD) (λu hu=>(l u hu).le) (λf hf=>(i f hf).1.le)
  ·omega
  ·intro u hu;rw[all_eq]at hu;rcases bN.1 hu with rfl|hu
   ·exact⟨z,w,λx Q=>(i x Q).2⟩
   ·obtain⟨v,o,hu⟩:=dp.1 hu;rcases bG.1 (show v∈k++e.map Fe.t from o)with o|o
    ·exact(l v o).mi u hu
    ·obtain⟨f,hf,rfl⟩:=bP.1 o;exact(i f hf).1.mi u hu
theorem UH:bR tt 73=[.str,.int .i64,.int .i64,.str,.str,.slice 29,.slice 57]:=by kernel_rfl
theorem UI:bR tt 136=[.str,.slice 73,.int .i64,.str,.str,.slice 29,.slice 57,.int .i64,.str,.str,.slice 29,.slice 57]:=by kernel_rfl
theorem RF:bR tt 91=[.str,.slice 73,.int .i64,.str,.str,.slice 29,.slice 57]:=by kernel_rfl
theorem RE:bR tt 210=[.str,.str,.str]:=by kernel_rfl
theorem RC:bR tt 213=[.str,.str]:=by kernel_rfl
theorem UJ:bR tt 97=[.str,.slice 136,.slice 91,.slice 210,.slice 213]:=by kernel_rfl
theorem UA(h:ga tt Pp 1048576 (bR tt 73) vs row)(b:jV row<=1048576):∃x:Pm,row=eU x/\(x.bound.fit/\x.name.length<=1048576)/\x.wt<=jV row:=by
 rw[UH]at h;cases h with
 |cons _ _ d0 _ _ _ g0 o k=>
 cases k with
 |cons _ _ d1 _ _ _ g1 c1 s1=>
 cases s1 with
 |cons _ _ d2 _ _ _ g2 c2 s2=>
 cases s2 with
 |cons _ _ d3 _ _ _ g3 c3 f=>
 cases f with
 |cons _ _ d4 _ _ _ g4 m g=>
 cases g with
 |cons _ _ d5 _ _ _ g5 c5 q=>
 cases q with
 |cons _ _ d6 _ _ _ g6 l c=>
 cases c;cases g0 with
 |str z0=>
 cases o with
 |str _ i=>
 cases g1 with
 |int _ j=>
 have a:=ga.cons _ _ _ _ _ _ g2 c2 (.cons _ _ _ _ _ _ g3 c3 (.cons _ _ _ _ _ _ g4 m (.cons _ _ _ _ _ _ g5 c5 (.cons _ _ _ _ _ _ g6 l .nil))));simp only[jV,wD]at b;obtain⟨t,e,fit,sz⟩:=A3 1048576 (by simp only[jV];omega) yD a;refine⟨⟨z0.data.toList,j,t⟩,?_,⟨fit,i⟩,?_⟩
 ·unfold eU;rw[<- e]
 ·simp only[jV,wD,Pm.wt]at sz ⊢;omega
theorem Gy(h:RD tt Pp (.slice 73) v d)(hb:Bd 1048576 d)(b:wD d<=1048576):∃l:List Pm,d=bA eU l/\l.length<=1048576/\(∀x∈l,x.bound.fit/\x.name.length<=1048576)/\(l.map Pm.wt).sum+1<=wD d:=lj (m:=1048576) (λvs row hr a=>UA hr a) h hb yO
theorem UE(h:ga tt Pp 1048576 (bR tt 210) vs row):∃x:AE,row=qI x/\x.fit/\1<=jV row:=by
 rw[RE]at h;cases h with
 |cons _ _ d0 _ _ _ g0 a b=>
 cases b with
 |cons _ _ d1 _ _ _ g1 c1 s1=>
 cases s1 with
 |cons _ _ d2 _ _ _ g2 c2 s2=>
 cases s2;cases g0 with
 |str z0=>
 cases g1 with
 |str e=>
 cases g2 with
 |str z2=>
 cases a with
 |str _ c=>
 cases c2 with
 |str _ b2=>
 exact⟨⟨_,_,_⟩,rfl,⟨c,b2⟩,by simp only[jV,wD];omega⟩
theorem UD(h:ga tt Pp 1048576 (bR tt 213) vs row):∃x:DE,row=ui x/\x.fit/\1<=jV row:=by
 rw[RC]at h;cases h with
 |cons _ _ d0 _ _ _ g0 a b=>
 cases b with
 |cons _ _ d1 _ _ _ g1 c1 s1=>
 cases s1;cases g0 with
 |str z0=>
 cases g1 with
 |str e=>
 cases a with
 |str _ c=>
 exact⟨⟨_,_⟩,rfl,⟨c⟩,by simp only[jV,wD];omega⟩
theorem Uz(h:ga tt Pp 1048576 (bR tt 136) vs row)(I:jV row<=1048576):∃x:TE,row=fY x/\(x.ok/\x.fit)/\x.wt<=jV row:=by
 rw[UI]at h;cases h with
 |cons _ _ d0 _ _ _ g0 N G=>
 cases G with
 |cons _ _ d1 _ _ _ g1 c1 s1=>
 cases s1 with
 |cons _ _ d2 _ _ _ g2 c2 s2=>
 cases s2 with
 |cons _ _ d3 _ _ _ g3 c3 K=>
 cases K with
 |cons _ _ d4 _ _ _ g4 M w=>
 cases w with
 |cons _ _ d5 _ _ _ g5 c5 O=>
 cases O with
 |cons _ _ d6 _ _ _ g6 L s=>
 cases s with
 |cons _ _ d7 _ _ _ g7 F C=>
 cases C with
 |cons _ _ d8 _ _ _ g8 z y=>
 cases y with
 |cons _ _ d9 _ _ _ g9 B A=>
 cases A with
 |cons _ _ d10 _ _ _ g10 l m=>
 cases m with
 |cons _ _ d11 _ _ _ g11 g o=>
 cases o;cases g0 with
 |str z0=>
 cases N with
 |str _ E=>
 simp only[jV,wD]at I;obtain⟨lp,rfl,c,a,i⟩:=Gy g1 c1 yO;have k:=ga.cons _ _ _ _ _ _ g2 c2 (.cons _ _ _ _ _ _ g3 c3 (.cons _ _ _ _ _ _ g4 M (.cons _ _ _ _ _ _ g5 c5 (.cons _ _ _ _ _ _ g6 L .nil))));obtain⟨t,e,q,sz⟩:=A3 1048576 (by simp only[jV];omega) yD k;have b:=ga.cons _ _ _ _ _ _ g7 F (.cons _ _ _ _ _ _ g8 z (.cons _ _ _ _ _ _ g9 B (.cons _ _ _ _ _ _ g10 l (.cons _ _ _ _ _ _ g11 g .nil))));obtain⟨u,e2,r,f⟩:=A3 1048576 (by simp only[jV];omega) yD b;refine⟨⟨z0.data.toList,lp,t,u⟩,?_,⟨⟨yP,λp j=>(a p j).1.le,q.le,r.le⟩,⟨E,c,λp j=>(a p j).1,q,r⟩⟩,?_⟩
 ·unfold fY;rw[<- e,<-e2];rfl
 ·simp only[jV,wD,TE.wt]at sz f i ⊢;omega
theorem Uy(h:ga tt Pp 1048576 (bR tt 91) vs row)(j:jV row<=1048576):∃x:VE,row=lS x/\(x.ok/\x.fit)/\x.wt<=jV row:=by
 rw[RF]at h;cases h with
 |cons _ _ d0 _ _ _ g0 u q=>
 cases q with
 |cons _ _ d1 _ _ _ g1 c1 s1=>
 cases s1 with
 |cons _ _ d2 _ _ _ g2 c2 s2=>
 cases s2 with
 |cons _ _ d3 _ _ _ g3 c3 l=>
 cases l with
 |cons _ _ d4 _ _ _ g4 s m=>
 cases m with
 |cons _ _ d5 _ _ _ g5 c5 w=>
 cases w with
 |cons _ _ d6 _ _ _ g6 r k=>
 cases k;cases g0 with
 |str z0=>
 cases u with
 |str _ o=>
 simp only[jV,wD]at j;obtain⟨lp,rfl,c,a,g⟩:=Gy g1 c1 yO;have f:=ga.cons _ _ _ _ _ _ g2 c2 (.cons _ _ _ _ _ _ g3 c3 (.cons _ _ _ _ _ _ g4 s (.cons _ _ _ _ _ _ g5 c5 (.cons _ _ _ _ _ _ g6 r .nil))));obtain⟨t,e,i,sz⟩:=A3 1048576 (by simp only[jV];omega) yD f;refine⟨⟨z0.data.toList,lp,t⟩,?_,⟨⟨yP,λp b=>(a p b).1.le,i.le⟩,⟨o,c,λp b=>(a p b).1,i⟩⟩,?_⟩
 ·unfold lS;rw[<- e]
 ·simp only[jV,wD,VE.wt]at sz g ⊢;omega
theorem Th(x:IF):lE x<=x.wt:=by
 have:∀l:List TE,(l.map λx=>x.lower.size+x.upper.size).sum<=(l.map TE.wt).sum:=by
  intro l;induction l with
  |nil=>simp
  |cons y l a=>simp only[bJ,cm,TE.wt]at a ⊢;omega
 have:=this x.types;unfold lE IF.wt;omega
theorem UC(h:ga tt Pp 1048576 (bR tt 97) vs row)(e:jV row<=1048576):∃x:IF,row=dC x/\x.fit/\x.wt<=jV row:=by
 rw[UJ]at h;cases h with
 |cons _ _ d0 _ _ _ g0 A s=>
 cases s with
 |cons _ _ d1 _ _ _ g1 c1 s1=>
 cases s1 with
 |cons _ _ d2 _ _ _ g2 c2 s2=>
 cases s2 with
 |cons _ _ d3 _ _ _ g3 c3 o=>
 cases o with
 |cons _ _ d4 _ _ _ g4 w q=>
 cases q;cases g0 with
 |str z0=>
 cases A with
 |str _ r=>
 have c:=e;simp only[jV,wD]at e;obtain⟨l1,rfl,a1,a2,a3⟩:=lj (m:=1048576) (f:=fY) (λvs row hr b=>Uz hr b) g1 c1 yO;obtain⟨l2,rfl,b1,b2,z⟩:=lj (m:=1048576) (f:=lS) (λvs row hr b=>Uy hr b) g2 c2 yO;obtain⟨l3,rfl,k,B,i⟩:=lj (m:=1048576) (f:=qI) (g:=λ_=>1) (λvs row hr _=>UE hr) g3 c3 yO;obtain⟨l4,rfl,l,u,j⟩:=lj (m:=1048576) (f:=ui) (g:=λ_=>1) (λvs row hr _=>UD hr) g4 w yO;have lA:(IF.mk z0.data.toList l1 l2 l3 l4).wt<=jV [D.str z0.data.toList,bA fY l1,bA lS l2,bA qI l3,bA ui l4]:=by rw[Kf]at i j;simp only[jV,wD,IF.wt]at a3 z i j ⊢;omega
 refine⟨⟨z0.data.toList,l1,l2,l3,l4⟩,rfl,⟨⟨yP,yP,yP,yP,λy a=>(a2 y a).1,λy a=>(b2 y a).1⟩,r,bQ (Th _) (bQ lA c),a1,b1,k,l,λy a=>(a2 y a).2,λy a=>(b2 y a).2,B,u⟩,lA⟩
theorem RA(h:RD tt Pp (.slice 97) v d)(hb:Bd 1048576 d)(k:wD d<=1048576):∃l:List IF,d=bA dC l/\eH l/\(∀i∈l,i.fit)/\(l.map IF.wt).sum+1<=wD d:=by obtain⟨l,e,a,b,c⟩:=lj (m:=1048576) (f:=dC) (λvs row hr g=>UC hr g) h hb yO;exact⟨l,e,⟨yO,λi j=>(b i j).ok⟩,b,c⟩
end
variable {Pp:fE}{v:Value}
theorem Qx{k:IntKind}{z:Int}(h:RD tt Pp (.int k) v (.int z)):VR tt [] Pp v (.int k z):=by cases h;exact .int _ _
theorem J3{z:S}(h:RD tt Pp .str v (.str z)):VR tt [] Pp v (.str z):=by cases h;exact .str _
section
variable {H:Type}{enc:TypeId×Value->H}{W:World}{n base:Nat}{v:Value}{d:DataW H}{p:List MemPlace}
variable {t:TypeId}
theorem HE{ck:CK}(i:TS.contains t=true)(f:bR tt t=[ck]){a:Option Addr}{l c:Nat}(h:DataW.Trod enc Tryz.prog W 0 (λ_=>true) true t (.slice a l c) d p)(hb:YtflmompnagpjeaaGreatDoor.Rows.uptoBulk d<=1048576):
 ∃e,RD tt (Cr W) ck (.slice a l c) e/\Bd 1048576 e/\wD e<=YtflmompnagpjeaaGreatDoor.Rows.uptoBulk d:=by
 obtain⟨fuel,hf⟩:=h;obtain⟨ds,b,g⟩:=CT (n:=1048576) k9 ZZ ZV (bulk:=YtflmompnagpjeaaGreatDoor.Rows.uptoBulk) Bk.ok fuel t _ _ i hf hb;rw[f]at b;cases b with
 |cons _ _ e _ _ _ h1 J t1=>cases t1;simp only[jV]at g;exact⟨e,h1,J,yO⟩
theorem X0(c:t=23)(b:Value.okWide Tryz.prog W .any base t v)(h:DataW.Trod enc Tryz.prog W 0 (λ_=>true) true t v d p)(hb:YtflmompnagpjeaaGreatDoor.Rows.uptoBulk d<=1048576):
 ∃(e:D) (l:List IF),VR tt [] (Cr W) v (.lst 97 e)/\e=bA dC l/\eH l/\(∀i∈l,i.fit)/\(l.map IF.wt).sum<=1048576:=by
 subst c;obtain⟨a,len,cap,rfl⟩:=okWide_slice Tryz.underlying23 b;obtain⟨e,h1,J,h3⟩:=HE yD (by kernel_rfl) h hb;obtain⟨l,he,hl,hf,f⟩:=RA h1 J yO;exact⟨e,l,.lst _ _ _ h1,he,hl,hf,yO⟩
theorem X2(c:t=25)(b:Value.okWide Tryz.prog W .any base t v)(h:DataW.Trod enc Tryz.prog W 0 (λ_=>true) true t v d p)(hb:YtflmompnagpjeaaGreatDoor.Rows.uptoBulk d<=1048576):
 ∃(e:D) (l:List Pm),VR tt [] (Cr W) v (.lst 73 e)/\e=bA eU l/\l.length<=1048576/\∀p∈l,p.bound.fit/\p.name.length<=1048576:=by
 subst c;obtain⟨a,len,cap,rfl⟩:=okWide_slice Tryz.underlying25 b;obtain⟨e,h1,J,h3⟩:=HE yD (by kernel_rfl) h hb;obtain⟨l,he,hl,hf,f⟩:=Gy h1 J yO;exact⟨e,l,.lst _ _ _ h1,he,hl,hf⟩
theorem UO(m:Value.okWide Tryz.prog W .any base 29 v)(h:DataW.Trod enc Tryz.prog W 0 (λ_=>true) true 29 v d p)(hb:YtflmompnagpjeaaGreatDoor.Rows.uptoBulk d<=1048576):
 ∃(t:Ty) (g:Int) (c1 c2:S) (c f:D),VR tt [] (Cr W) v (dO g c1 c2 c f)/\cD t g c1 c2 c f/\t.fit:=by
 obtain⟨cs,rfl,_⟩:=okWide_struct Tryz.underlying29 m;obtain⟨fuel,hf⟩:=h;obtain⟨ds,a,j⟩:=CT (n:=1048576) k9 ZZ ZV (bulk:=YtflmompnagpjeaaGreatDoor.Rows.uptoBulk) Bk.ok fuel 29 _ _ yD hf hb;rw[Qe]at a;generalize i:(Value.agg cs).cells.toList=vs at a;have b:cs=⟨vs⟩:=by rw[<- i];rfl
 subst b;clear i hf;obtain⟨t,e,fit,sz⟩:=A3 1048576 (bQ j hb) yD a;subst e;rw[dk]at a;cases a with
 |cons _ _ _ _ _ _ g0 _ o=>
 cases o with
 |cons _ _ _ _ _ _ g1 _ s1=>
 cases s1 with
 |cons _ _ _ _ _ _ g2 _ s2=>
 cases s2 with
 |cons _ _ _ _ _ _ g3 _ k=>
 cases k with
 |cons _ _ _ _ _ _ g4 _ l=>
 cases l;exact⟨t,t.k,t.m,t.n,_,_,.agg _ _ (.cons _ _ _ _ (Qx g0) (.cons _ _ _ _ (J3 g1) (.cons _ _ _ _ (J3 g2) (.cons _ _ _ _ (.lst _ _ _ g3) (.cons _ _ _ _ (.lst _ _ _ g4) .nil))))),⟨rfl,rfl,rfl,rfl,rfl⟩,fit⟩
end
variable {env:List IF}{ts:List Ty}
theorem Ty.pos:∀t:Ty,1<=t.size| .mk .. =>by rw[size_eq];omega
theorem Lk{l:List Pm}:l.length<=(l.map Pm.wt).sum:=by
 induction l with
 |nil=>simp
 |cons x l a=>simp only[bJ,cm,bM,Pm.wt];omega
theorem Ab(i:IF):(eL i).length<=i.wt:=by
 unfold eL;have h1:=ln (f:=fe) (g:=TE.wt) (l:=i.types) λx _=>by have:=Lk (l:=x.params);have:=Ty.pos x.lower;have:=Ty.pos x.upper;simp only[fe,TE.wt,bt,bM,bX,bL];omega
 have J:=ln (f:=gr) (g:=VE.wt) (l:=i.values) λx _=>by have:=Lk (l:=x.params);have:=Ty.pos x.ty;simp only[gr,VE.wt,bt,bM,bX,bL];omega
 rw[bt];unfold IF.wt;omega
theorem QF(hf:∀i∈env,i.fit)(h:∀t∈ts,t.fit):∀t∈lT env ts,Wt t:=by
 intro t a
 have q:t.fit:=by
  rcases bG.1 a with a|a
  ·exact h t a
  ·obtain⟨i,b,a⟩:=dp.1 a;exact sA (hf i b) t a
 exact⟨q.le,bQ q.sz yD⟩
theorem NL(a:(env.map IF.wt).sum<=1048576)(h:ts.length<=1048580):(lT env ts).length<=4000000000:=by unfold lT;have:=ln (f:=eL) (g:=IF.wt) (l:=env) λi _=>Ab i;rw[bt];omega
theorem Fj(b:(env.map IF.wt).sum<=1048576):∀i∈env,(eL i).length<=4294967290:=λi a=>by have h1:=Ab i;have J:i.wt<=(env.map IF.wt).sum:=sr a;omega
theorem TD{W:World}{laid:List (String×DataW Unit)}(h:W.ShapedOpen Tryz.prog)(hl:laidMetH Tryz.prog laid W)(c:(laid.all λx=>x.2.handleName?.isNone)=true)
 (i:("internal/strconv.uint64pow10",YtflmompnagpjeaaGreatDoor.Rows.laid_internal_strconv_uint64pow10)∈laid):Vp tt W:=by
 refine⟨?_,?_⟩
 ·intro b hb;rw[show vj tt=some 3 by kernel_rfl]at hb;cases hb;exact cell_of_shapedOpen_int (t:=3) (zero:= #[.int .i64 0]) h (of_decide_eq_true (by kernel_rfl)) (by kernel_rfl) rfl (by kernel_rfl) (by kernel_rfl) Tryz.underlying3
 ·intro g a;rw[show vh tt=[(0,.u64,Lib.pow10Tab)]by kernel_rfl]at a;simp only[df]at a;subst a;rw[MakeChecks.laidMetH_plain _ _ _ c]at hl;obtain⟨g,t,cs,fuel,p,h1,J,h3,h4⟩:=Lib.laidMet.reads hl i;obtain rfl:=iH ((show Tryz.prog.globalNamed "internal/strconv.uint64pow10" =some 0 by kernel_rfl).symm.trans h1);obtain rfl:=iH ((show (Tryz.prog.globals[0]?).map (·.type)=some 320 by kernel_rfl).symm.trans J);have hc:=Lib.cells_of_tab (e:=281) (n:=20) (k:=.u64) (zs:=Lib.pow10Tab) (by kernel_rfl) (by kernel_rfl) (by kernel_rfl) (by kernel_rfl) h4;simp only[World.var?,h1,iy]at h3;split at h3
  ·rename_i j T f l;cases h3;exact⟨T,f,by rw[l,<-hc]⟩
  ·cases h3
end
end Go.VC.cG
namespace Go.Proofs.YtflmompnagpjeaaGreatDoor
open Go Go.VC Go.VC.cG
open Go.ChangeShapes Go.WideShapes Go.ChangeAt Go.RowKit
def Mj:DataW Unit->List Value
 | .lit (.int k n)=>[.int k n]
 |_=>[]
def Mi:DataW Unit->List Value
 | .agg ds=>ds.flatMap Mj
 |d=>Mj d
def zi:DataW Unit->List Value
 | .agg ds=>ds.flatMap Mi
 |d=>Mi d
def putCells(h:Array Obj)(g:Nat)(cs:List Value):Array Obj:=h.modify g fun
 | .cells _ t frozen=>.cells ⟨cs⟩ t frozen
 |o=>o
noncomputable def rG(os:Os):World:=
 let w0:=World.holding Tryz.prog os ⟨#[],#[],[]⟩
 { w0 with heap:=putCells (putCells (putCells (putCells (putCells w0.heap 1 (zi Rows.laid_math_bits_deBruijn32tab)) 2 (zi Rows.laid_math_bits_deBruijn64tab)) 0 (zi Rows.laid_internal_strconv_uint64pow10)) 5 (zi Rows.laid_unicode_utf8_acceptRanges)) 4 (zi Rows.laid_unicode_utf8_first) }
theorem Lq(os:Os)(args:Array Value):laidMetH Tryz.prog Rows.derivationNeedsUptoRow.laid ((rG os).forCall (λ_ _=>0) ⟨#[],args,[]⟩).memory:=laidMetH_of_parts3 (fuel:=8) (laidMet_of_run' 8 (by kernel_rfl) (by kernel_rfl)) (by kernel_rfl) (by kernel_rfl)
end Go.Proofs.YtflmompnagpjeaaGreatDoor
