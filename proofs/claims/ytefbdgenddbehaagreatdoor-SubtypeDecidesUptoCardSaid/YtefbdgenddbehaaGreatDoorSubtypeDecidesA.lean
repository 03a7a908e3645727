/- What the law SubtypeDecides needs of its contract. -/
import Derived.Test.YtefbdgenddbehaaGreatDoorCards
import Derived.Test.YtefbdgenddbehaaGreatDoorTie
import Derived.SevenTiedAt
import Derived.Test.YtefbdgenddbehaaGreatDoorPart8
set_option linter.all false
set_option maxRecDepth 100000
set_option maxHeartbeats 16000000
open Array renaming mem_of_getElem?→Iq
open List renaming all_eq_true→dk,length_append→bE,length_cons→bS,length_map→bQ,length_nil→cH,mem_append→bJ,mem_append_left→eu,mem_cons→bP,mem_map→bT,not_mem_nil→mK
open Nat renaming le_trans→bR
open Option renaming map_eq_some_iff→lE
open Option.some renaming inj→fF
open Prod.mk renaming injEq→ey
set_option maxRecDepth 100000
namespace Go.Proofs.YtefbdgenddbehaaGreatDoor
open Go Go.VC Go.VC.cK
open Go.ChangeShapes Go.WideShapes Go.ChangeAt Go.RowKit
theorem Jw(H:Type)(enc:TypeId×Value->H)(W:World)(base:Nat)(args:Array Value)(ds x:List (DataW H))(b:List MemPlace)
 (a:∀(j:Nat) t v,Tryz.f3.params[j]? =some t->args[j]? =some v->Value.okWide Tryz.prog W .any base t v)
 (E:DataW.Whole enc Tryz.prog Tryz.f3.params.toList Rows.subtypeDecidesSpec.vars false W args.toList ds x b) (hk:Rows.uptoSmall H (ds++x)=true) (D:W.ShapedOpen Tryz.prog) (hl:laidMetH Tryz.prog Rows.subtypeDecidesUptoRow.laid W):
 Calls Tryz.prog 3 args W λe W'=>∃v,e= .returned v/\Rows.subtypeDecidesSpec.post enc Tryz.prog Tryz.f3 false true false false W args v W':=by
 have A:=E;obtain⟨p,q,s,hV,rfl,ad,gV⟩:=E;have F:DataW.TrodAll enc Tryz.prog W 0 (λ_=>true) true Tryz.f3.params.toList args.toList ds p:=s;rw[Tryz.params3]at F a;obtain⟨v0,Q,V,M,d0,y,d2,o,p0,p1,p2,p3,rfl,rfl,rfl,h0,h1,J,h3⟩:=trodAll_four F;have B:Rows.uptoBulkAll ([d0,y,d2,o]++x)<=1048576:=of_decide_eq_true hk;have hb:∀d∈[d0,y,d2,o],Rows.uptoBulk d<=1048576:=λd hd=>bR (Bk.uH (eu _ hd)) B;obtain⟨e0,l0,w0,r,w,h,g⟩:=Tr rfl (a 0 _ v0 rfl rfl) h0 (hb d0 yS);obtain⟨e1,l1,G,n,l,f⟩:=V4 rfl (a 1 _ Q rfl rfl) h1 (hb y yS);obtain⟨t2,T,O,I,R,K,w2,z,k⟩:=Tq (a 2 _ V rfl rfl) J (hb d2 yS);obtain⟨t3,U,P,S,L,aa,N,C,i⟩:=Tq (a 3 _ M rfl rfl) h3 (hb o yS)
 refine EB (tb:=4) (c:=_) A rfl laid (by rw[Tryz.params3];exact of_decide_eq_true (by kernel_rfl)) (by kernel_rfl) Tryz.underlying4 ⟨rfl,rfl,rfl⟩ ⟨Tryz.func3,by rfl,rfl⟩
  (.cons _ _ _ _ w0 (.cons _ _ _ _ G (.cons _ _ _ _ w2 (.cons _ _ _ _ N .nil)))) (Pu D hl (by kernel_rfl) (.tail _ (.tail _ (.head _))))
  (F3 PB r w h (bR g yD) (xY g) n l (λp m=>⟨CJ (f p m).1,(f p m).2⟩) (CJ k) (CJ i) (Kh h (λu hu=>?_)) (Hu g ?_) z C rfl)
 ·rcases bJ.1 hu with hu|hu
  ·simp only[bP,mK,or_false]at hu;rcases hu with rfl|rfl
   ·exact k
   ·exact i
  ·obtain⟨p,m,rfl⟩:=bT.1 hu;exact(f p m).1
 ·have:=l;rw[bE,bQ];simp only[bS,cH];omega
theorem B4(os:Os){H:Type}(enc:TypeId×Value->H):
 (Rows.OpenSpec.upto Rows.subtypeDecidesSpec).preRow enc Tryz.prog Tryz.f3 Rows.subtypeDecidesUptoRow.domain false Rows.subtypeDecidesUptoRow.laid ((lL os).forCall (λ_ _=>0) ⟨#[],#[.slice none 0 0,.slice none 0 0,.agg #[.int .i64 0,.string .empty,.string .empty,.slice none 0 0,.slice none 0 0],.agg #[.int .i64 0,.string .empty,.string .empty,.slice none 0 0,.slice none 0 0]],[]⟩).memory #[.slice none 0 0,.slice none 0 0,.agg #[.int .i64 0,.string .empty,.string .empty,.slice none 0 0,.slice none 0 0],.agg #[.int .i64 0,.string .empty,.string .empty,.slice none 0 0,.slice none 0 0]]:=by
 have b:(DataW.whole enc Tryz.prog ((lL os).forCall (λ_ _=>0) ⟨#[],#[.slice none 0 0,.slice none 0 0,.agg #[.int .i64 0,.string .empty,.string .empty,.slice none 0 0,.slice none 0 0],.agg #[.int .i64 0,.string .empty,.string .empty,.slice none 0 0,.slice none 0 0]],[]⟩).memory Tryz.f3.params.toList (Rows.OpenSpec.upto Rows.subtypeDecidesSpec).vars false (#[.slice none 0 0,.slice none 0 0,.agg #[.int .i64 0,.string .empty,.string .empty,.slice none 0 0,.slice none 0 0],.agg #[.int .i64 0,.string .empty,.string .empty,.slice none 0 0,.slice none 0 0]]:Array Value).toList 8).map (λx=>(x.1,x.2.1))=
  some ([.nil,.nil,.agg [.lit (.int .i64 0),.lit (.string []),.lit (.string []),.nil,.nil],.agg [.lit (.int .i64 0),.lit (.string []),.lit (.string []),.nil,.nil]],[]):=by kernel_rfl
 obtain⟨⟨d,f,e⟩,c,a⟩:=lE.1 b;simp only[ey]at a;obtain⟨rfl,rfl⟩:=a;exact OpenSpec.preRow_of_cond 8 c (by kernel_rfl) (λk hk=>by cases hk;rfl) (by kernel_rfl) (EC os _)
theorem N0(os:Os)(a:os.Started)(H:Type)(enc:TypeId×Value->H)(F:Stop.Interp):
 ReturnsInHanded {} Tryz.checked os 3 .any ((Rows.OpenSpec.upto Rows.subtypeDecidesSpec).preRow enc Tryz.prog Tryz.f3 Rows.subtypeDecidesUptoRow.domain false Rows.subtypeDecidesUptoRow.laid) (((Rows.OpenSpec.upto Rows.subtypeDecidesSpec).at F).post enc Tryz.prog Tryz.f3 false true false false):=by
 refine returnsInHanded_of_row (C:=Tryz.checked) (s:=Rows.OpenSpec.upto Rows.subtypeDecidesSpec) own a (by kernel_rfl) Tryz.func3
  (witness_row_atRef (enc:=enc) (C:=Tryz.checked) false (lL os) #[.slice none 0 0,.slice none 0 0,.agg #[.int .i64 0,.string .empty,.string .empty,.slice none 0 0,.slice none 0 0],.agg #[.int .i64 0,.string .empty,.string .empty,.slice none 0 0,.slice none 0 0]] rfl (by kernel_rfl) (by kernel_rfl) (by kernel_rfl) (B4 os enc)) ?_
 intro W base args ds f b c e _ hk _ hl d _;exact Jw H enc W base args ds f b c e (hk _ rfl) d hl
end Go.Proofs.YtefbdgenddbehaaGreatDoor
