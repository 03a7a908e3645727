/- What the law SubtypeValid needs of its contract. -/
import Derived.Test.YtefbdgenddbehaaGreatDoorCards
import Derived.Test.YtefbdgenddbehaaGreatDoorTie
import Derived.SevenTiedAt
import Derived.Test.YtefbdgenddbehaaGreatDoorPart8
set_option linter.all false
set_option maxRecDepth 100000
set_option maxHeartbeats 16000000
open Array renaming mem_of_getElem?→Iq
open List renaming all_eq_true→dk,mem_append_left→eu
open Nat renaming le_trans→bR
open Option renaming map_eq_some_iff→lE
open Option.some renaming inj→fF
open Prod.mk renaming injEq→ey
set_option maxRecDepth 100000
namespace Go.Proofs.YtefbdgenddbehaaGreatDoor
open Go Go.VC Go.VC.cK
open Go.ChangeShapes Go.WideShapes Go.ChangeAt Go.RowKit
theorem Jv(H:Type)(enc:TypeId×Value->H)(W:World)(base:Nat)(args:Array Value)(ds l:List (DataW H))(a:List MemPlace)
 (b:∀(j:Nat) t v,Tryz.f4.params[j]? =some t->args[j]? =some v->Value.okWide Tryz.prog W .any base t v)
 (r:DataW.Whole enc Tryz.prog Tryz.f4.params.toList Rows.subtypeValidSpec.vars false W args.toList ds l a) (hk:Rows.uptoSmall H (ds++l)=true) (o:W.ShapedOpen Tryz.prog) (hl:laidMetH Tryz.prog Rows.subtypeValidUptoRow.laid W):
 Calls Tryz.prog 4 args W λe y=>∃v,e= .returned v/\Rows.subtypeValidSpec.post enc Tryz.prog Tryz.f4 false true false false W args v y:=by
 have m:=r;obtain⟨p,q,i,B,rfl,x,gV⟩:=r;have s:DataW.TrodAll enc Tryz.prog W 0 (λ_=>true) true Tryz.f4.params.toList args.toList ds p:=i;rw[Tryz.params4]at s b;obtain⟨w,d0,rfl,rfl,h0⟩:=trodAll_one s;have n:Rows.uptoBulkAll ([d0]++l)<=1048576:=of_decide_eq_true hk;have hb:∀d∈[d0],Rows.uptoBulk d<=1048576:=λd hd=>bR (Bk.uH (eu _ hd)) n;obtain⟨z,A,w0,h,k,g,f⟩:=Tr rfl (b 0 _ w rfl rfl) h0 (hb d0 yS)
 refine EB (tb:=4) (c:=_) m rfl laid (by rw[Tryz.params4];exact of_decide_eq_true (by kernel_rfl)) (by kernel_rfl) Tryz.underlying4 ⟨rfl,rfl,rfl⟩ ⟨Tryz.func4,by rfl,rfl⟩
  (.cons _ _ _ _ w0 .nil) (Pu o hl (by kernel_rfl) (.tail _ (.tail _ (.head _))))
  (F4 PB h k g (bR f yD) (xY f) (Kh g (λu hu=>yE hu)) (Hu f yS) rfl)
theorem B3(os:Os){H:Type}(enc:TypeId×Value->H):
 (Rows.OpenSpec.upto Rows.subtypeValidSpec).preRow enc Tryz.prog Tryz.f4 Rows.subtypeValidUptoRow.domain false Rows.subtypeValidUptoRow.laid ((lL os).forCall (λ_ _=>0) ⟨#[],#[.slice none 0 0],[]⟩).memory #[.slice none 0 0]:=by
 have b:(DataW.whole enc Tryz.prog ((lL os).forCall (λ_ _=>0) ⟨#[],#[.slice none 0 0],[]⟩).memory Tryz.f4.params.toList (Rows.OpenSpec.upto Rows.subtypeValidSpec).vars false (#[.slice none 0 0]:Array Value).toList 8).map (λx=>(x.1,x.2.1))=
  some ([.nil],[]):=by kernel_rfl
 obtain⟨⟨d,f,e⟩,c,a⟩:=lE.1 b;simp only[ey]at a;obtain⟨rfl,rfl⟩:=a;exact OpenSpec.preRow_of_cond 8 c (by kernel_rfl) (λk hk=>by cases hk;rfl) (by kernel_rfl) (EC os _)
theorem NZ(os:Os)(a:os.Started)(H:Type)(enc:TypeId×Value->H)(F:Stop.Interp):
 ReturnsInHanded {} Tryz.checked os 4 .any ((Rows.OpenSpec.upto Rows.subtypeValidSpec).preRow enc Tryz.prog Tryz.f4 Rows.subtypeValidUptoRow.domain false Rows.subtypeValidUptoRow.laid) (((Rows.OpenSpec.upto Rows.subtypeValidSpec).at F).post enc Tryz.prog Tryz.f4 false true false false):=by
 refine returnsInHanded_of_row (C:=Tryz.checked) (s:=Rows.OpenSpec.upto Rows.subtypeValidSpec) own a (by kernel_rfl) Tryz.func4
  (witness_row_atRef (enc:=enc) (C:=Tryz.checked) false (lL os) #[.slice none 0 0] rfl (by kernel_rfl) (by kernel_rfl) (by kernel_rfl) (B3 os enc)) ?_
 intro W base args ds f b c e _ hk _ hl d _;exact Jv H enc W base args ds f b c e (hk _ rfl) d hl
end Go.Proofs.YtefbdgenddbehaaGreatDoor
