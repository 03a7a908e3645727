/- Part 18 of the common texts. -/
import Derived.Test.YtflmompnagpjeaaGreatDoorCards
import Derived.Test.YtflmompnagpjeaaGreatDoorTie
import Derived.SevenTiedAt
import Derived.Test.YtflmompnagpjeaaGreatDoorPart16
import Derived.Test.YtflmompnagpjeaaGreatDoorPart15
import Derived.Test.YtflmompnagpjeaaGreatDoorPart13
import Derived.Test.YtflmompnagpjeaaGreatDoorPart17
set_option linter.all false
set_option maxRecDepth 100000
set_option maxHeartbeats 16000000
open List renaming length_append→bt,length_cons→bM,length_map→bL,length_nil→bX,mem_append→bG,mem_append_left→dF,mem_cons→bN,mem_map→bP,not_mem_nil→zx
open Nat renaming le_trans→bQ
open Option renaming map_eq_some_iff→p6
open Prod.mk renaming injEq→gb
set_option maxRecDepth 100000
namespace Go.Proofs.YtflmompnagpjeaaGreatDoor
open Go Go.VC Go.VC.cG
open Go.ChangeShapes Go.WideShapes Go.ChangeAt Go.RowKit
attribute [-instance] instDrY
theorem Jo(H:Type)(enc:TypeId×Value->H)(W:World)(base:Nat)(args:Array Value)(ds w:List (DataW H))(b:List MemPlace)
 (a:∀(j:Nat) t v,Tryz.f3.params[j]? =some t->args[j]? =some v->Value.okWide Tryz.prog W .any base t v)
 (D:DataW.Whole enc Tryz.prog Tryz.f3.params.toList Rows.derivationNeedsSpec.vars false W args.toList ds w b) (hk:Rows.uptoSmall H (ds++w)=true) (C:W.ShapedOpen Tryz.prog) (hl:laidMetH Tryz.prog Rows.derivationNeedsUptoRow.laid W):
 Calls Tryz.prog 3 args W λe W'=>∃v,e= .returned v/\Rows.derivationNeedsSpec.post enc Tryz.prog Tryz.f3 false true false false W args v W':=by
 have z:=D;obtain⟨p,q,r,hV,rfl,af,fR⟩:=D;have E:DataW.TrodAll enc Tryz.prog W 0 (λ_=>true) true Tryz.f3.params.toList args.toList ds p:=r;rw[Tryz.params3]at E a;obtain⟨v0,Q,v2,M,d0,x,d2,n,p0,p1,p2,p3,rfl,rfl,rfl,h0,h1,J,h3⟩:=trodAll_four E;have A:Rows.uptoBulkAll ([d0,x,d2,n]++w)<=1048576:=of_decide_eq_true hk;have hb:∀d∈[d0,x,d2,n],Rows.uptoBulk d<=1048576:=λd F=>bQ (Bk.wH (dF _ F)) A;obtain⟨e0,l0,w0,o,s,g,f⟩:=X0 rfl (a 0 _ v0 rfl rfl) h0 (hb d0 (by simp));obtain⟨e1,l1,G,m,l,k⟩:=X2 rfl (a 1 _ Q rfl rfl) h1 (hb x (by simp));obtain⟨t2,U,O,I,S,K,w2,y,i⟩:=UO (a 2 _ v2 rfl rfl) J (hb d2 (by simp));obtain⟨t3,aa,P,T,L,ac,N,B,h⟩:=UO (a 3 _ M rfl rfl) h3 (hb n (by simp))
 refine Lp (tb:=4) (c:=_) z rfl laid (by rw[Tryz.params3];exact of_decide_eq_true (by kernel_rfl)) (by kernel_rfl) Tryz.underlying4 ⟨rfl,rfl,rfl⟩ ⟨Tryz.func3,by rfl,rfl⟩
  (.cons _ _ _ _ w0 (.cons _ _ _ _ G (.cons _ _ _ _ w2 (.cons _ _ _ _ N .nil)))) (TD C hl (by kernel_rfl) (by simp[Rows.derivationNeedsUptoRow]))
  (F3 R.UN o s g (bQ f (by decide)) (Fj f) m l k i h (QF g (λu hu=>?_)) (NL f ?_) y B rfl)
 ·rcases bG.1 hu with hu|hu
  ·simp only[bN,zx,or_false]at hu;rcases hu with rfl|rfl
   ·exact i
   ·exact h
  ·obtain⟨p,V,rfl⟩:=bP.1 hu;exact(k p V).1
 ·have:=l;rw[bt,bL];simp only[bM,bX];omega
theorem Bn(os:Os){H:Type}(enc:TypeId×Value->H):
 (Rows.OpenSpec.upto Rows.derivationNeedsSpec).preRow enc Tryz.prog Tryz.f3 Rows.derivationNeedsUptoRow.domain false Rows.derivationNeedsUptoRow.laid ((rG os).forCall (λ_ _=>0) ⟨#[],#[.slice none 0 0,.slice none 0 0,.agg #[.int .i64 0,.string .empty,.string .empty,.slice none 0 0,.slice none 0 0],.agg #[.int .i64 0,.string .empty,.string .empty,.slice none 0 0,.slice none 0 0]],[]⟩).memory #[.slice none 0 0,.slice none 0 0,.agg #[.int .i64 0,.string .empty,.string .empty,.slice none 0 0,.slice none 0 0],.agg #[.int .i64 0,.string .empty,.string .empty,.slice none 0 0,.slice none 0 0]]:=by
 have b:(DataW.whole enc Tryz.prog ((rG os).forCall (λ_ _=>0) ⟨#[],#[.slice none 0 0,.slice none 0 0,.agg #[.int .i64 0,.string .empty,.string .empty,.slice none 0 0,.slice none 0 0],.agg #[.int .i64 0,.string .empty,.string .empty,.slice none 0 0,.slice none 0 0]],[]⟩).memory Tryz.f3.params.toList (Rows.OpenSpec.upto Rows.derivationNeedsSpec).vars false (#[.slice none 0 0,.slice none 0 0,.agg #[.int .i64 0,.string .empty,.string .empty,.slice none 0 0,.slice none 0 0],.agg #[.int .i64 0,.string .empty,.string .empty,.slice none 0 0,.slice none 0 0]]:Array Value).toList 8).map (λx=>(x.1,x.2.1))=
  some ([.nil,.nil,.agg [.lit (.int .i64 0),.lit (.string []),.lit (.string []),.nil,.nil],.agg [.lit (.int .i64 0),.lit (.string []),.lit (.string []),.nil,.nil]],[]):=by kernel_rfl
 obtain⟨⟨d,f,e⟩,c,a⟩:=p6.1 b;simp only[gb]at a;obtain⟨rfl,rfl⟩:=a;exact OpenSpec.preRow_of_cond 8 c (by kernel_rfl) (λk hk=>by cases hk;rfl) (by kernel_rfl) (Lq os _)
theorem Ot(os:Os)(a:os.Started)(H:Type)(enc:TypeId×Value->H)(F:Stop.Interp):
 ReturnsInHanded {} Tryz.checked os 3 .any ((Rows.OpenSpec.upto Rows.derivationNeedsSpec).preRow enc Tryz.prog Tryz.f3 Rows.derivationNeedsUptoRow.domain false Rows.derivationNeedsUptoRow.laid) (((Rows.OpenSpec.upto Rows.derivationNeedsSpec).at F).post enc Tryz.prog Tryz.f3 false true false false):=by
 refine returnsInHanded_of_row (C:=Tryz.checked) (s:=Rows.OpenSpec.upto Rows.derivationNeedsSpec) own a (by kernel_rfl) Tryz.func3
  (witness_row_atRef (enc:=enc) (C:=Tryz.checked) false (rG os) #[.slice none 0 0,.slice none 0 0,.agg #[.int .i64 0,.string .empty,.string .empty,.slice none 0 0,.slice none 0 0],.agg #[.int .i64 0,.string .empty,.string .empty,.slice none 0 0,.slice none 0 0]] rfl (by kernel_rfl) (by kernel_rfl) (by kernel_rfl) (Bn os enc)) ?_
 intro W base args ds f b c e _ hk _ hl d _;exact Jo H enc W base args ds f b c e (hk _ rfl) d hl
end Go.Proofs.YtflmompnagpjeaaGreatDoor
