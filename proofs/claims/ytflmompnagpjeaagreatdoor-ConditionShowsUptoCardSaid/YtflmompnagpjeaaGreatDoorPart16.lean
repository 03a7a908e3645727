/- Part 16 of the common texts. -/
import Derived.Test.YtflmompnagpjeaaGreatDoorCards
import Derived.Test.YtflmompnagpjeaaGreatDoorTie
import Derived.SevenTiedAt
import Derived.Test.YtflmompnagpjeaaGreatDoorPart14
import Derived.Test.YtflmompnagpjeaaGreatDoorPart13
import Derived.Test.YtflmompnagpjeaaGreatDoorPart11
import Derived.Test.YtflmompnagpjeaaGreatDoorPart15
set_option linter.all false
set_option maxRecDepth 100000
set_option maxHeartbeats 16000000
open List renaming mem_append_left→cy
open Nat renaming le_trans→bM
open Option renaming map_eq_some_iff→qh
open Prod.mk renaming injEq→gf
set_option maxRecDepth 100000
namespace Go.Proofs.YtflmompnagpjeaaGreatDoor
open Go Go.VC Go.VC.cc
open Go.ChangeShapes Go.WideShapes Go.ChangeAt Go.RowKit
attribute [-instance] instDrY
theorem Ku(H:Type)(enc:TypeId×Value->H)(W:World)(base:Nat)(args:Array Value)(ds l:List (DataW H))(b:List MemPlace)
 (a:∀(j:Nat) t v,Tryz.f4.params[j]? =some t->args[j]? =some v->Value.okWide Tryz.prog W .any base t v)
 (y:DataW.Whole enc Tryz.prog Tryz.f4.params.toList Rows.conditionShowsSpec.vars false W args.toList ds l b) (hk:Rows.uptoSmall H (ds++l)=true) (x:W.ShapedOpen Tryz.prog) (hl:laidMetH Tryz.prog Rows.conditionShowsUptoRow.laid W):
 Calls Tryz.prog 4 args W λe I=>∃v,e= .returned v/\Rows.conditionShowsSpec.post enc Tryz.prog Tryz.f4 false true false false W args v I:=by
 have s:=y;obtain⟨p,q,i,L,rfl,G,gx⟩:=y;have z:DataW.TrodAll enc Tryz.prog W 0 (λ_=>true) true Tryz.f4.params.toList args.toList ds p:=i;rw[Tryz.params4]at z a;obtain⟨E,C,D,d0,m,d2,p0,p1,p2,rfl,rfl,rfl,h0,h1,J⟩:=trodAll_three z;have u:Rows.uptoBulkAll ([d0,m,d2]++l)<=1048576:=of_decide_eq_true hk;have hb:∀d∈[d0,m,d2],Rows.uptoBulk d<=1048576:=λd A=>bM (Bk.xk (cy _ A)) u;obtain⟨e0,l0,w0,h,k,g,r⟩:=V3 rfl (a 0 _ E rfl rfl) h0 (hb d0 (by simp));obtain⟨e1,l1,B,f,w,n,o⟩:=V3 rfl (a 1 _ C rfl rfl) h1 (hb m (by simp));obtain⟨K,F⟩:=aaf (a 2 _ D rfl rfl) J
 refine MC (tb:=4) (c:=_) s rfl laid (by rw[Tryz.params4];exact of_decide_eq_true (by kernel_rfl)) (by kernel_rfl) Tryz.underlying4 ⟨rfl,rfl,rfl⟩ ⟨Tryz.func4,by rfl,rfl⟩
  (.cons _ _ _ _ w0 (.cons _ _ _ _ B (.cons _ _ _ _ F .nil))) (UU x hl (by kernel_rfl) (by simp[Rows.conditionShowsUptoRow]))
  (F4 R.V2 (uw h k g r) (uw f w n o) rfl)
theorem B8(os:Os){H:Type}(enc:TypeId×Value->H):
 (Rows.OpenSpec.upto Rows.conditionShowsSpec).preRow enc Tryz.prog Tryz.f4 Rows.conditionShowsUptoRow.domain false Rows.conditionShowsUptoRow.laid ((rL os).forCall (λ_ _=>0) ⟨#[],#[.slice none 0 0,.slice none 0 0,.string .empty],[]⟩).memory #[.slice none 0 0,.slice none 0 0,.string .empty]:=by
 have b:(DataW.whole enc Tryz.prog ((rL os).forCall (λ_ _=>0) ⟨#[],#[.slice none 0 0,.slice none 0 0,.string .empty],[]⟩).memory Tryz.f4.params.toList (Rows.OpenSpec.upto Rows.conditionShowsSpec).vars false (#[.slice none 0 0,.slice none 0 0,.string .empty]:Array Value).toList 8).map (λx=>(x.1,x.2.1))=
  some ([.nil,.nil,.lit (.string [])],[]):=by kernel_rfl
 obtain⟨⟨x1,x2,x3⟩,c,a⟩:=qh.1 b;simp only[gf]at a;obtain⟨rfl,rfl⟩:=a;exact OpenSpec.preRow_of_cond 8 c (by kernel_rfl) (λk hk=>by cases hk;rfl) (by kernel_rfl) (MD os _)
theorem Py(os:Os)(a:os.Started)(H:Type)(enc:TypeId×Value->H)(F:Stop.Interp):
 ReturnsInHanded {} Tryz.checked os 4 .any ((Rows.OpenSpec.upto Rows.conditionShowsSpec).preRow enc Tryz.prog Tryz.f4 Rows.conditionShowsUptoRow.domain false Rows.conditionShowsUptoRow.laid) (((Rows.OpenSpec.upto Rows.conditionShowsSpec).at F).post enc Tryz.prog Tryz.f4 false true false false):=by
 refine returnsInHanded_of_row (C:=Tryz.checked) (s:=Rows.OpenSpec.upto Rows.conditionShowsSpec) own a (by kernel_rfl) Tryz.func4
  (witness_row_atRef (enc:=enc) (C:=Tryz.checked) false (rL os) #[.slice none 0 0,.slice none 0 0,.string .empty] rfl (by kernel_rfl) (by kernel_rfl) (by kernel_rfl) (B8 os enc)) ?_
 intro W base args ds f b c e _ hk _ hl d _;exact Ku H enc W base args ds f b c e (hk _ rfl) d hl
end Go.Proofs.YtflmompnagpjeaaGreatDoor
