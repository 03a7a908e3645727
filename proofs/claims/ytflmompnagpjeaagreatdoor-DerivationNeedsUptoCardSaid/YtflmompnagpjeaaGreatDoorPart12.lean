/- Part 12 of the common texts. -/
import Derived.Test.YtflmompnagpjeaaGreatDoorPart11
set_option linter.all false
set_option maxRecDepth 100000
set_option maxHeartbeats 16000000
open And renaming intro→bq
open Eq renaming trans→iu
open Int renaming ofNat→bk,ofNat_eq_natCast→bz
open List renaming append_assoc→bI,getElem_mem→bu,length_append→bt,length_map→bL,length_take→cJ,take_length→bD
open Nat renaming le_trans→bQ,zero_le→bB
open Or renaming inl→bE
namespace Go.VC.cG
open Go Go.VC Go.Proofs
def g6k:ea:={tt:=tt,n:=66,n0:=1,own:=[2]}
def F6{env:List IF}{de:D}(he:de=bA dC env)(ek:eH env)(eO:∀i∈env,i.fit)(S:(env.map IF.wt).sum<=268435456)(G:∀i∈env,(eL i).length<=4294967290){ctx:List Pm}{dc:D}(hc:dc=bA eU ctx)(mZ:ctx.length<=1048576)(Q:∀p∈ctx,p.bound.fit/\p.name.length<=1048576){ts:List Ty}{v:D}(F:v=bA cq ts)(T:ts.length<=1048576)(I:∀t∈ts,t.fit)
 (lA:∀t∈lT env (ts++ctx.map Pm.bound),Wt t) (N:(lT env (ts++ctx.map Pm.bound)).length<=4000000000) {K:PV->List Ob->Prop}
 (h:∀b,(b=true->ctx.length<=4/\∃C,JA env (lT env (ts++ctx.map Pm.bound)) C)->K (.bool b) [.dead]):
 FT 6 [.row 29 v true] [.lst 97 de,.lst 73 dc,.row 29 0] K:=by
 refine el g6k Tryz.func6 λA C L X=>?_;have Y:=fz X.a;obtain⟨l,H,j⟩:=lenOf F;obtain⟨g,s,c⟩:=lenOf hc;cbv;refine lP X (λy=>y.1<=l/\y.2<=1048576*y.1) (λy=>l-y.1) (0,0) ⟨bB _,yS⟩ [0,1] (λ(y:Nat×Nat)=>⟨[(16,.int .i64 y.1),(15,.int .i64 (A.len v)),(14,.row 29 1),(7,.int .i64 (bk y.2)),(0,.lst 97 de),(1,.lst 73 dc),(2,.row 29 1)],[.dead,.row 29 v true]⟩) ?_;rintro⟨i,n⟩ ⟨o,O⟩;simp only at o O;cbv;constructor<;>intro h1
 ·have h5:i<ts.length:=lY X.a j h1;have m:=iX X.a F h5;have u:=jX X.a h5;have q:=gT X.a F h5;have f:=I _ (bu h5);have U:=f.sz;clear h1;cbv;refine⟨m,?_⟩;refine X.call (Wn _ f.le yO q λr hr=>?_);have e:A.add (bk n) r=bk (n+ts[i].size):=by rw[X.a,hr];rfl
  have M:A.inr .i64 (A.add (bk n) r):=by rw[e,X.a];simp only[SD];omega
  refine p1 ?_;refine⟨(i+1,n+ts[i].size),⟨yP,yP⟩,yP,[0,1],rfl,?_⟩;rw[<- e];exact yc
 have h5:i=l:=gY X.a j h1;have O:n<=1099511627776:=yO;clear h1 h5 o;cbv;refine lP X (λy=>y.1<=g/\y.2<=1099511627776+1048576*y.1) (λy=>g-y.1) (0,n) ⟨bB _,bQ O (Nat.le_add_right _ _)⟩ [0,1] (λ(y:Nat×Nat)=>⟨[(27,.int .i64 y.1),(26,.int .i64 (A.len dc)),(25,.lst 73 dc),(7,.int .i64 (bk y.2)),(0,.lst 97 de),(1,.lst 73 dc),(2,.row 29 1)],[.dead,.row 29 v true]⟩) ?_;rintro⟨i,E⟩ ⟨o,B⟩;simp only at o B;cbv;constructor<;>intro h1
 ·have h5:i<ctx.length:=lY X.a c h1;have m:=iX X.a hc h5;have u:=jX X.a h5;have q:=(kh X.a hc h5).2.2;have f:=(Q _ (bu h5)).1;have U:=f.sz;clear h1;cbv;refine⟨m,?_⟩;refine X.call (Wn _ f.le yO q λr hr=>?_);have e:A.add (bk E) r=bk (E+ctx[i].bound.size):=by rw[X.a,hr];rfl
  have M:A.inr .i64 (A.add (bk E) r):=by rw[e,X.a];simp only[SD];omega
  refine p1 ?_;refine⟨(i+1,E+ctx[i].bound.size),⟨yP,yP⟩,yP,[0,1],rfl,?_⟩;rw[<- e];exact yc
 have h5:i=g:=gY X.a c h1;clear h1 h5 o B;cbv;refine lP X (λy=>y.1<=g/\y.2=bA cq (ts++(ctx.take y.1).map Pm.bound)) (λy=>g-y.1) (0,v) ⟨bB _,yU F⟩ [0,1] (λ(y:Nat×D)=>⟨[(39,.int .i64 y.1),(38,.int .i64 (A.len dc)),(37,.lst 73 dc),(7,.int .i64 (bk E)),(0,.lst 97 de),(1,.lst 73 dc),(2,.row 29 1)],[.dead,.row 29 y.2 true]⟩) ?_;rintro⟨i,d⟩ ⟨o,w⟩;simp only at o w;cbv;constructor<;>intro h1
 ·have h5:i<ctx.length:=lY X.a c h1;have m:=iX X.a hc h5;have u:=jX X.a h5;have q:=(kh X.a hc h5).2.2;have R:∀row:List D,A.gh (A.add (A.len d) (A.len (A.lit [row]))) 4294967296:=λrow=>by rw[X.a,w];simp only[SD,bt,bL,cJ];omega
  have x:A.app d (A.lit [[.int (A.asInt (A.cell dc (bk i) 2)),.str (A.bH (A.cell dc (bk i) 3)),.str (A.bH (A.cell dc (bk i) 4)),A.cell dc (bk i) 5,A.cell dc (bk i) 6]])=bA cq (ts++(ctx.take (i+1)).map Pm.bound):=by refine iu (congrArg (λz=>A.app d (A.lit [z])) (xj q)) ?_;rw[X.a,w,map_take h5,<-bI];exact cB (k:=[ctx[i].bound])
  clear h1;cbv;repeat' (first|apply bq|exact zf|(intro J;cbv)|apply bE)
  all_goals try first|exact m|exact u|exact R _
  exact⟨(i+1,_),⟨yP,x⟩,yP,[0,1],rfl,yc⟩
 have h5:i=g:=gY X.a c h1;rw[h5,s,bD]at w;clear h1 h5 o;have P:∀a b:Int,A.le a b=decide (a<=b):=by rw[X.a];exactλ_ _=>rfl
 cbv;refine X.call (F26 he ek yO λsz fh=>?_);cbv;repeat' (first|apply bq|exact zf|(intro J;cbv)|apply bE|(refine X.call (F27 he ek eO G w lA N λb hb=>?_);cbv))
 all_goals first
  |exact h false (λe=>yC e)
  |(refine h b (λe=>⟨?_,hb e⟩)
    have z:A.le (A.len dc) 4=true:=yA;rw[P,X.a,c]at z;have:=of_decide_eq_true z;simp only[bz]at this;omega)
  |trace_state
end Go.VC.cG
