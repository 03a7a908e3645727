/- Part 5 of the common texts: W6 W7 X9 X10 X11b U6 V10 U7 KT X12 Z1 Z2 Z3 Z4 Z5 Z6 Z7 Z8 Z9 Z10 Z11 Z12 Z13 Z14 Z15 Z16 Z17 Z18. -/
import Derived.Test.YtppmlhanmdamfaaGreatDoorPart1
import Derived.Test.YtppmlhanmdamfaaGreatDoorPart2
import Derived.Test.YtppmlhanmdamfaaGreatDoorPart3
import Derived.Test.YtppmlhanmdamfaaGreatDoorPart4
set_option linter.all false
set_option maxRecDepth 100000
set_option maxHeartbeats 16000000

section
namespace Go.VC
inductive End where|nf|loop|typ (m n:S) (x:TE)|val (m n:S) (x:VE)
def endI (env:List IF):Nat→S→S→End
 |0,_,_=>.loop
 |k+1,m,n=>match look' env m n with
  | .none=>.nf
  | .noali=>.nf
  | .typ x=>.typ m n x
  | .val x=>.val m n x
  | .ali x=>endI env k x.module x.target
def typeR (env:List IF) (m n:S):TE×S×Int:=match endI env 65 m n with
 | .typ m' _ x=>(x,m',0)
 | .val _ _ _=>(TE.zero,[],6)
 | .nf=>(TE.zero,[],6)
 | .loop=>(TE.zero,[],14)
def valueR (env:List IF) (m n:S):VE×S×Int:=match endI env 65 m n with
 | .typ _ _ _=>(VE.zero,[],6)
 | .val m' _ x=>(x,m',0)
 | .nf=>(VE.zero,[],6)
 | .loop=>(VE.zero,[],14)
def endO (env:List IF) (m n:S):End:=endI env 65 m n
end Go.VC
namespace Go.VC.T07
open Go Go.VC Go.Proofs
theorem F86 {env:List IF} {d:D} {m n:S} {K:PV→List Ob→Prop} (hd:d=encL encIF env) (hl:envOk env)
  (h0:endO env m n= .nf→K (.tup [entPV [] [] .nilp .nilp .nilp,.int .i64 6]) [])
  (hloop:endO env m n= .loop→K (.tup [entPV [] [] .nilp .nilp .nilp,.int .i64 14]) [])
  (ht:∀ m' n' x c0 c1 c2 c3 c4 c5 c6 c7 c8 c9 c10 c11,endO env m n= .typ m' n' x→x.ok→teIs x c0 c1 c2 c3 c4 c5 c6 c7 c8 c9 c10 c11→K (.tup [entPV m' n' (.pptr [.str c0,.lst 53 c1,.int .i64 c2,.str c3,.str c4,.lst 28 c5,.lst 65 c6,.int .i64 c7,.str c8,.str c9,.lst 28 c10,.lst 65 c11] 0) .nilp .nilp,.int .i64 0]) [])
  (hv:∀ m' n' x c0 c1 c2 c3 c4 c5 c6,endO env m n= .val m' n' x→x.ok→veIs x c0 c1 c2 c3 c4 c5 c6→K (.tup [entPV m' n' .nilp (.pptr [.str c0,.lst 53 c1,.int .i64 c2,.str c3,.str c4,.lst 28 c5,.lst 65 c6] 0) .nilp,.int .i64 0]) []):
  FC Tryz.prog tt 86 [] [.lst 40 d,.str m,.str n] K:=by
 refine FC.enter (G:=g86) tt_ok mixed ⟨Tryz.func86,by rfl,rfl⟩ rfl rfl rfl ?_
 intro A C L X
 cbv
 refine X.loopP (fun (y:Nat×S×S)=>⟨[(10,.int .i64 y.1),(0,.lst 40 d),(1,.str y.2.1),(2,.str y.2.2),(6,.box 0 0)],[.box [.undef,.undef,.undef,.undef,.undef]]⟩)
  (fun y=>y.1≤65∧endI env (65-y.1) y.2.1 y.2.2=endO env m n) (fun y=>65-y.1) (0,m,n) ⟨Nat.zero_le _,rfl⟩ ?_ ?_
 ·refine ⟨[0],rfl,?_⟩
  (cbv;repeat' apply And.intro);all_goals try first|trivial|rfl|(rw [X.a];rfl)
 rintro ⟨i,m',n'⟩ ⟨hi,he⟩
 simp only at hi he
 cbv
 refine ⟨fun h1=> ?_,fun h1=> ?_⟩
 ·have h5:i<65:=by obtain rfl:=X.a;simp only [SD,bNot] at h1;omega
  obtain ⟨k,hk⟩:∃ k,65-i=k+1:=⟨64-i,by omega⟩
  have hk':65-(i+1)=k:=by omega
  rw [hk] at he
  simp only [endI] at he
  have hin:A.inr .i64 (A.add (Int.ofNat i) 1):=by rw [X.a];exact leaf_inc h5 (by omega)
  cbv
  refine X.call (F143 hd hl ?_ ?_ ?_ ?_)
  ·intro e
   rw [e] at he
   have q:=h0 he.symm
   cbv
   repeat' (first|apply And.intro|exact fun (_:FF)=>by kernel_rfl|(intro h2;cbv)|apply Or.inl)
   ·exact q
   ·obtain rfl:=X.a;cases h2
  ·intro x c0 c1 c2 c3 c4 c5 c6 c7 c8 c9 c10 c11 e hx hc
   rw [e] at he
   have q:=ht _ _ _ _ _ _ _ _ _ _ _ _ _ _ _ he.symm hx hc
   cbv
   repeat' (first|apply And.intro|exact fun (_:FF)=>by kernel_rfl|(intro h2;cbv)|apply Or.inl)
   ·obtain rfl:=X.a;cases h2
   ·exact q
  ·intro x c0 c1 c2 c3 c4 c5 c6 e hx hc
   rw [e] at he
   have q:=hv _ _ _ _ _ _ _ _ _ _ he.symm hx hc
   cbv
   repeat' (first|apply And.intro|exact fun (_:FF)=>by kernel_rfl|(intro h2;cbv)|apply Or.inl)
   ·obtain rfl:=X.a;cases h2
   ·exact q
  ·intro x c0 c1 c2 b e hc
   have hn:b=false→K (.tup [entPV [] [] .nilp .nilp .nilp,.int .i64 6]) []:=by
    intro eb
    rcases e with ⟨e,e2⟩|⟨e,e2⟩
    ·rw [e2] at eb;cases eb
    ·rw [e] at he;exact h0 he.symm
   cbv
   repeat' (first|apply And.intro|exact fun (_:FF)=>by kernel_rfl|(intro h2;cbv)|apply Or.inl)
   ·exact hn (by obtain rfl:=X.a;simpa only [SD,bNot] using h2)
   ·exact hin
   ·have eb:b=true:=by rename_i h3;obtain rfl:=X.a;simpa only [SD,bNot] using h3
    rcases e with ⟨e,e2⟩|⟨e,e2⟩
    ·rw [e] at he
     simp only at he
     refine ⟨(i+1,x.module,x.target),⟨by simp only;omega,by simp only [hk'];exact he⟩,by simp only;omega,[0],rfl,?_⟩
     obtain ⟨hc0,hc1,hc2⟩:=hc
     rw [← hc1,←hc2]
     (cbv;repeat' apply And.intro);all_goals try first|trivial|rfl|(rw [X.a];rfl)
    ·rw [e2] at eb;cases eb
 ·have h5:i=65:=by obtain rfl:=X.a;simp only [SD,bNot] at h1;omega
  subst h5
  have q:=hloop he.symm
  cbv
  exact q
theorem F215 {env:List IF} {d:D} {m n:S} {K:PV→List Ob→Prop} (hd:d=encL encIF env) (hl:envOk env)
  (h:∀ r0 r1 r2,(r0,r1,r2)=(match endO env m n with| .nf=>([],[],6)| .loop=>([],[],14)| .typ m' n' _=>(m',n',0)| .val m' n' _=>(m',n',0):S×S×Int)→K (.tup [.str r0,.str r1,.int .i64 r2]) []):
  FC Tryz.prog tt 215 [] [.lst 40 d,.str m,.str n] K:=by
 refine FC.enter (G:=g215) tt_ok mixed ⟨Tryz.func215,by rfl,rfl⟩ rfl rfl rfl ?_
 intro A C L X
 cbv
 refine X.call (F86 hd hl ?_ ?_ ?_ ?_)
 ·intro e
  rw [e] at h
  have q:=h _ _ _ rfl
  cbv
  repeat' (first|apply And.intro|exact fun (_:FF)=>by kernel_rfl|(intro h2;cbv)|apply Or.inl)
  exact q
 ·intro e
  rw [e] at h
  have q:=h _ _ _ rfl
  cbv
  repeat' (first|apply And.intro|exact fun (_:FF)=>by kernel_rfl|(intro h2;cbv)|apply Or.inl)
  exact q
 ·intro m' n' x c0 c1 c2 c3 c4 c5 c6 c7 c8 c9 c10 c11 e hx hc
  rw [e] at h
  have q:=h _ _ _ rfl
  cbv
  repeat' (first|apply And.intro|exact fun (_:FF)=>by kernel_rfl|(intro h2;cbv)|apply Or.inl)
  exact q
 ·intro m' n' x c0 c1 c2 c3 c4 c5 c6 e hx hc
  rw [e] at h
  have q:=h _ _ _ rfl
  cbv
  repeat' (first|apply And.intro|exact fun (_:FF)=>by kernel_rfl|(intro h2;cbv)|apply Or.inl)
  exact q
theorem F49 {env:List IF} {d:D} {m n:S} {K:PV→List Ob→Prop} (hd:d=encL encIF env) (hl:envOk env)
  (h:∀ e0 e1 e2 e3 e4 e5 e6 e7 e8 e9 e10 e11 r1 r2,teIs (typeR env m n).1 e0 e1 e2 e3 e4 e5 e6 e7 e8 e9 e10 e11→r1=(typeR env m n).2.1→r2=(typeR env m n).2.2→K (.tup [tePV e0 e1 e2 e3 e4 e5 e6 e7 e8 e9 e10 e11,.str r1,.int .i64 r2]) []):
  FC Tryz.prog tt 49 [] [.lst 40 d,.str m,.str n] K:=by
 refine FC.enter (G:=g49) tt_ok mixed ⟨Tryz.func49,by rfl,rfl⟩ rfl rfl rfl ?_
 intro A C L X
 cbv
 refine X.call (F86 hd hl ?_ ?_ ?_ ?_)
 ·intro e
  have hT:typeR env m n=(TE.zero,[],6):=by unfold typeR;rw [show endI env 65 m n=endO env m n from rfl,e]
  rw [hT] at h
  cbv
  repeat' (first|apply And.intro|exact fun (_:FF)=>by kernel_rfl|(intro h2;cbv)|apply Or.inl)
  all_goals first
   |exact h _ _ _ _ _ _ _ _ _ _ _ _ _ _ ⟨rfl,rfl,⟨rfl,rfl,rfl,rfl,rfl⟩,rfl,rfl,rfl,rfl,rfl⟩ rfl rfl
   |(exfalso;obtain rfl:=X.a;simp only [SD,bNot] at *;omega)
   |(exfalso;obtain rfl:=X.a;simp [Std_eq,Std_not,bNot] at *;done)
   |(exfalso;obtain rfl:=X.a;cases h2)
 ·intro e
  have hT:typeR env m n=(TE.zero,[],14):=by unfold typeR;rw [show endI env 65 m n=endO env m n from rfl,e]
  rw [hT] at h
  cbv
  repeat' (first|apply And.intro|exact fun (_:FF)=>by kernel_rfl|(intro h2;cbv)|apply Or.inl)
  all_goals first
   |exact h _ _ _ _ _ _ _ _ _ _ _ _ _ _ ⟨rfl,rfl,⟨rfl,rfl,rfl,rfl,rfl⟩,rfl,rfl,rfl,rfl,rfl⟩ rfl rfl
   |(exfalso;obtain rfl:=X.a;simp only [SD,bNot] at *;omega)
   |(exfalso;obtain rfl:=X.a;simp [Std_eq,Std_not,bNot] at *;done)
   |(exfalso;obtain rfl:=X.a;cases h2)
 ·intro m' n' x c0 c1 c2 c3 c4 c5 c6 c7 c8 c9 c10 c11 e hx hc
  have hT:typeR env m n=(x,m',0):=by unfold typeR;rw [show endI env 65 m n=endO env m n from rfl,e]
  rw [hT] at h
  cbv
  repeat' (first|apply And.intro|exact fun (_:FF)=>by kernel_rfl|(intro h2;cbv)|apply Or.inl)
  all_goals first
   |(exfalso;obtain rfl:=X.a;simp [Std_eq,Std_not,bNot] at *;done)
   |refine X.cut (fun (z:S×D×Int×S×S×D×D×Int×S×S×D×D)=>⟨[(6,.box 0 0),(7,.str m'),(8,.int .i64 0)],[.box [.str z.1,.lst 53 z.2.1,.int .i64 z.2.2.1,.str z.2.2.2.1,.str z.2.2.2.2.1,.lst 28 z.2.2.2.2.2.1,.lst 65 z.2.2.2.2.2.2.1,.int .i64 z.2.2.2.2.2.2.2.1,.str z.2.2.2.2.2.2.2.2.1,.str z.2.2.2.2.2.2.2.2.2.1,.lst 28 z.2.2.2.2.2.2.2.2.2.2.1,.lst 65 z.2.2.2.2.2.2.2.2.2.2.2]]⟩) (fun z=>teIs x z.1 z.2.1 z.2.2.1 z.2.2.2.1 z.2.2.2.2.1 z.2.2.2.2.2.1 z.2.2.2.2.2.2.1 z.2.2.2.2.2.2.2.1 z.2.2.2.2.2.2.2.2.1 z.2.2.2.2.2.2.2.2.2.1 z.2.2.2.2.2.2.2.2.2.2.1 z.2.2.2.2.2.2.2.2.2.2.2) ?_ ?_
  ·cbv
   repeat' (first|apply And.intro|exact fun (_:FF)=>by kernel_rfl|(intro h2;cbv)|apply Or.inl|(refine X.call (F87 hx hc fun e0 e1 e2 e3 e4 e5 e6 e7 e8 e9 e10 e11 he=> ?_);cbv))
   all_goals (refine ⟨(e0,e1,e2,e3,e4,e5,e6,e7,e8,e9,e10,e11),he,[0],rfl,?_⟩;(cbv;repeat' apply And.intro);all_goals try first|trivial|rfl|(rw [X.a];rfl))
  ·rintro ⟨e0,e1,e2,e3,e4,e5,e6,e7,e8,e9,e10,e11⟩ he
   simp only at he
   cbv
   exact h _ _ _ _ _ _ _ _ _ _ _ _ _ _ he rfl rfl
  all_goals first
   |(exfalso;obtain rfl:=X.a;simp only [SD,bNot] at *;omega)
   |(exfalso;obtain rfl:=X.a;simp [Std_eq,Std_not,bNot] at *;done)
   |(exfalso;obtain rfl:=X.a;cases h2)
 ·intro m' n' x c0 c1 c2 c3 c4 c5 c6 e hx hc
  have hT:typeR env m n=(TE.zero,[],6):=by unfold typeR;rw [show endI env 65 m n=endO env m n from rfl,e]
  rw [hT] at h
  cbv
  repeat' (first|apply And.intro|exact fun (_:FF)=>by kernel_rfl|(intro h2;cbv)|apply Or.inl)
  all_goals first
   |exact h _ _ _ _ _ _ _ _ _ _ _ _ _ _ ⟨rfl,rfl,⟨rfl,rfl,rfl,rfl,rfl⟩,rfl,rfl,rfl,rfl,rfl⟩ rfl rfl
   |(exfalso;obtain rfl:=X.a;simp only [SD,bNot] at *;omega)
   |(exfalso;obtain rfl:=X.a;simp [Std_eq,Std_not,bNot] at *;done)
   |(exfalso;obtain rfl:=X.a;cases h2)
theorem F97 {env:List IF} {d:D} {m n:S} {K:PV→List Ob→Prop} (hd:d=encL encIF env) (hl:envOk env)
  (h:∀ e0 e1 e2 e3 e4 e5 e6 r1 r2,veIs (valueR env m n).1 e0 e1 e2 e3 e4 e5 e6→r1=(valueR env m n).2.1→r2=(valueR env m n).2.2→K (.tup [vePV e0 e1 e2 e3 e4 e5 e6,.str r1,.int .i64 r2]) []):
  FC Tryz.prog tt 97 [] [.lst 40 d,.str m,.str n] K:=by
 refine FC.enter (G:=g97) tt_ok mixed ⟨Tryz.func97,by rfl,rfl⟩ rfl rfl rfl ?_
 intro A C L X
 cbv
 refine X.call (F86 hd hl ?_ ?_ ?_ ?_)
 ·intro e
  have hT:valueR env m n=(VE.zero,[],6):=by unfold valueR;rw [show endI env 65 m n=endO env m n from rfl,e]
  rw [hT] at h
  cbv
  repeat' (first|apply And.intro|exact fun (_:FF)=>by kernel_rfl|(intro h2;cbv)|apply Or.inl)
  all_goals first
   |exact h _ _ _ _ _ _ _ _ _ ⟨rfl,rfl,rfl,rfl,rfl,rfl,rfl⟩ rfl rfl
   |(exfalso;obtain rfl:=X.a;simp only [SD,bNot] at *;omega)
   |(exfalso;obtain rfl:=X.a;simp [Std_eq,Std_not,bNot] at *;done)
   |(exfalso;obtain rfl:=X.a;cases h2)
 ·intro e
  have hT:valueR env m n=(VE.zero,[],14):=by unfold valueR;rw [show endI env 65 m n=endO env m n from rfl,e]
  rw [hT] at h
  cbv
  repeat' (first|apply And.intro|exact fun (_:FF)=>by kernel_rfl|(intro h2;cbv)|apply Or.inl)
  all_goals first
   |exact h _ _ _ _ _ _ _ _ _ ⟨rfl,rfl,rfl,rfl,rfl,rfl,rfl⟩ rfl rfl
   |(exfalso;obtain rfl:=X.a;simp only [SD,bNot] at *;omega)
   |(exfalso;obtain rfl:=X.a;simp [Std_eq,Std_not,bNot] at *;done)
   |(exfalso;obtain rfl:=X.a;cases h2)
 ·intro m' n' x c0 c1 c2 c3 c4 c5 c6 c7 c8 c9 c10 c11 e hx hc
  have hT:valueR env m n=(VE.zero,[],6):=by unfold valueR;rw [show endI env 65 m n=endO env m n from rfl,e]
  rw [hT] at h
  cbv
  repeat' (first|apply And.intro|exact fun (_:FF)=>by kernel_rfl|(intro h2;cbv)|apply Or.inl)
  all_goals first
   |exact h _ _ _ _ _ _ _ _ _ ⟨rfl,rfl,rfl,rfl,rfl,rfl,rfl⟩ rfl rfl
   |(exfalso;obtain rfl:=X.a;simp only [SD,bNot] at *;omega)
   |(exfalso;obtain rfl:=X.a;simp [Std_eq,Std_not,bNot] at *;done)
   |(exfalso;obtain rfl:=X.a;cases h2)
 ·intro m' n' x c0 c1 c2 c3 c4 c5 c6 e hx hc
  have hT:valueR env m n=(x,m',0):=by unfold valueR;rw [show endI env 65 m n=endO env m n from rfl,e]
  rw [hT] at h
  cbv
  repeat' (first|apply And.intro|exact fun (_:FF)=>by kernel_rfl|(intro h2;cbv)|apply Or.inl)
  all_goals first
   |(exfalso;obtain rfl:=X.a;simp [Std_eq,Std_not,bNot] at *;done)
   |refine X.cut (fun (z:S×D×Int×S×S×D×D)=>⟨[(6,.box 0 0),(7,.str m'),(8,.int .i64 0)],[.box [.str z.1,.lst 53 z.2.1,.int .i64 z.2.2.1,.str z.2.2.2.1,.str z.2.2.2.2.1,.lst 28 z.2.2.2.2.2.1,.lst 65 z.2.2.2.2.2.2]]⟩) (fun z=>veIs x z.1 z.2.1 z.2.2.1 z.2.2.2.1 z.2.2.2.2.1 z.2.2.2.2.2.1 z.2.2.2.2.2.2) ?_ ?_
  ·cbv
   repeat' (first|apply And.intro|exact fun (_:FF)=>by kernel_rfl|(intro h2;cbv)|apply Or.inl|(refine X.call (F115 hx hc fun e0 e1 e2 e3 e4 e5 e6 he=> ?_);cbv))
   all_goals (refine ⟨(e0,e1,e2,e3,e4,e5,e6),he,[0],rfl,?_⟩;(cbv;repeat' apply And.intro);all_goals try first|trivial|rfl|(rw [X.a];rfl))
  ·rintro ⟨e0,e1,e2,e3,e4,e5,e6⟩ he
   simp only at he
   cbv
   exact h _ _ _ _ _ _ _ _ _ he rfl rfl
  all_goals first
   |(exfalso;obtain rfl:=X.a;simp only [SD,bNot] at *;omega)
   |(exfalso;obtain rfl:=X.a;simp [Std_eq,Std_not,bNot] at *;done)
   |(exfalso;obtain rfl:=X.a;cases h2)
end Go.VC.T07
end

section
namespace Go.VC
def boundsR (env:List IF) (t:Ty):Ty×Ty×Int:=
 if t.k≠10 then (Ty.zero,Ty.zero,1) else
 if (typeR env t.m t.n).2.2≠0 then (Ty.zero,Ty.zero,(typeR env t.m t.n).2.2) else
 if t.ar.length≠(typeR env t.m t.n).1.params.length then (Ty.zero,Ty.zero,11) else
 ((typeR env t.m t.n).1.lower.sub ((typeR env t.m t.n).1.params.map (·.name)) t.ar,(typeR env t.m t.n).1.upper.sub ((typeR env t.m t.n).1.params.map (·.name)) t.ar,0)
theorem zeroT_ok:Ty.le 4294967295 Ty.zero:=.mk _ (by simp [Ty.zero,Ty.ar]) (by simp [Ty.zero,Ty.fl]) (by simp [Ty.zero,Ty.ar]) (by simp [Ty.zero,Ty.fl])
theorem zeroTE_ok:TE.zero.ok:=⟨by simp [TE.zero],by simp [TE.zero],zeroT_ok,zeroT_ok⟩
theorem lookI_ok {i:IF} (h:i.ok) {n:S}:(∀ x,lookI i n= .typ x→x.ok)∧(∀ x,lookI i n= .val x→x.ok):=by
 unfold lookI
 refine ⟨fun x=> ?_,fun x=> ?_⟩
 ·split
  ·rename_i y hy;intro e;cases e;exact h.t _ (find_mem' hy)
  ·split
   ·intro e;cases e
   ·split<;>(intro e;cases e)
 ·split
  ·intro e;cases e
  ·split
   ·rename_i y hy;intro e;cases e;exact h.v _ (find_mem' hy)
   ·split<;>(intro e;cases e)
theorem endI_ok {env:List IF} (h:envOk env):∀ (k:Nat) (m n:S),(∀ m' n' x,endI env k m n= .typ m' n' x→x.ok)∧(∀ m' n' x,endI env k m n= .val m' n' x→x.ok)
 |0,m,n=>by simp [endI]
 |k+1,m,n=>by
  have hk:=fun m n=>endI_ok h k m n
  simp only [endI]
  unfold look'
  cases hf:findI env m with
  |none=>simp
  |some i=>
   have:=lookI_ok (findI_ok h hf) (n:=n)
   simp only
   cases hl:lookI i n with
   |none=>simp
   |noali=>simp
   |typ x=>refine ⟨fun m' n' y e=> ?_,fun _ _ _ e=>by cases e⟩;cases e;exact this.1 x hl
   |val x=>refine ⟨fun _ _ _ e=>(by cases e),fun m' n' y e=> ?_⟩;cases e;exact this.2 x hl
   |ali x=>exact hk _ _
theorem typeR_ok {env:List IF} (h:envOk env) {m n:S}:(typeR env m n).1.ok:=by
 have:=endI_ok h 65 m n
 unfold typeR
 cases he:endI env 65 m n with
 |typ m' n' x=>exact this.1 _ _ _ he
 |val m' n' x=>exact zeroTE_ok
 |nf=>exact zeroTE_ok
 |loop=>exact zeroTE_ok
end Go.VC
namespace Go.VC.T07
open Go Go.VC Go.Proofs
end Go.VC.T07
end

section
namespace Go.VC
def nodeE (env:List IF) (vs:List S) (t:Ty):Int:=
 if t.k=9 then (if vs.contains t.n then 0 else 4) else
 if t.k=10 then (if (typeR env t.m t.n).2.2≠0 then (typeR env t.m t.n).2.2 else if (typeR env t.m t.n).1.params.length≠t.ar.length then 11 else 0) else 0
def nodesE (env:List IF) (vs:List S) (t:Ty):Int:=firstE (t.all.map (nodeE env vs))
def wfE (env:List IF) (vs:List S) (t:Ty):Int:=if ckE t≠0 then ckE t else nodesE env vs t
theorem contains_any (vs:List S) (s:S):vs.contains s=vs.any fun x=>s==x:=by
 rw [List.contains_eq_any_beq]
theorem idxS_any (l:List S) (s:S):(l.any fun x=>s==x)=decide (0≤idxS l s):=by
 have:(fun x:S=>s==x)=fun x=>x==s:=by funext x;exact BEq.comm
 rw [this];exact idxF_any
theorem size_pts {t:Ty} (hs:t.size≤4294967295):(∀ u∈t.pts,u.size≤4294967295)∧t.pts.length≤4294967295:=by
 refine ⟨fun u hu=> ?_,?_⟩
 ·have:=size_eq t
  have h2:u.size≤(t.pts.map Ty.size).sum:=le_sum (List.mem_map.2 ⟨u,hu,rfl⟩)
  omega
 ·have:∀ l:List Ty,l.length≤(l.map Ty.size).sum:=by
   intro l
   induction l with
   |nil=>simp
   |cons x l ih=>simp only [List.length_cons,List.map_cons,List.sum_cons];have:=size_eq x;omega
  have h1:=this t.pts
  have h2:=size_eq t
  omega
theorem pts_all {t u v:Ty} (hv:v∈t.pts) (hu:u∈v.all):u∈t.all:=by
 rw [all_eq];exact List.mem_cons_of_mem _ (List.mem_flatMap.2 ⟨v,hv,hu⟩)
theorem self_all (t:Ty):t∈t.all:=by rw [all_eq];simp
theorem nodesE_eq (env:List IF) (vs:List S) (t:Ty):nodesE env vs t=if nodeE env vs t=0 then firstE ((t.pts.flatMap Ty.all).map (nodeE env vs)) else nodeE env vs t:=by
 unfold nodesE;rw [all_eq,List.map_cons,firstE_cons]
end Go.VC
namespace Go.VC.T07
open Go Go.VC Go.Proofs
theorem F21 {l:List S} {d:D} {s:S} {K:PV→List Ob→Prop} (hd:d=encL encS l) (hl:l.length≤4294967295)
  (h:∀ b,b=l.contains s→K (.bool b) []):FC Tryz.prog tt 21 [] [.lst 9 d,.str s] K:=by
 refine FC.enter (G:=g21) tt_ok mixed ⟨Tryz.func21,by rfl,rfl⟩ rfl rfl rfl ?_
 intro A C L X
 cbv
 refine X.call (F47 hd (Nat.lt_succ_of_le hl) rfl fun r hr=> ?_)
 have q:=h (A.le 0 r) (by rw [X.a,Std_le,hr];exact ((contains_any l s).trans (idxS_any l s)).symm)
 cbv
 exact q
theorem F64 {t:Ty} (hle:Ty.le 4294967295 t) (hpl:t.pts.length≤4294967295) {c0:Int} {c1 c2:S} {c3 c4:D} {K:PV→List Ob→Prop} (ht:tyIs t c0 c1 c2 c3 c4)
  (h:∀ r,r=encL encTy t.pts→K (.lst 28 r) []):FC Tryz.prog tt 64 [] [tyPV c0 c1 c2 c3 c4] K:=by
 obtain ⟨t0,t1,t2,hc3,hc4⟩:=ht
 have hpl':t.ar.length+t.fl.length≤4294967295:=by simpa [Ty.pts] using hpl
 refine FC.enter (G:=g64) tt_ok mixed ⟨Tryz.func64,by rfl,rfl⟩ rfl rfl rfl ?_
 intro A C L X
 obtain ⟨n_c4,hn_c4,hlen_c4⟩:=lenOf hc4
 cbv
 refine X.call (F108 hc3 (by omega) fun r1 hr1=> ?_)
 cbv
 refine X.loopP (fun (y:Nat×D)=>⟨[(12,.int .i64 y.1),(11,.int .i64 (A.len c4)),(10,.lst 65 c4),(3,.row 28 1),(1,.box 0 0)],[.box [.int .i64 c0,.str c1,.str c2,.lst 28 c3,.lst 65 c4],.row 28 y.2 true]⟩)
  (fun y=>y.1≤n_c4∧y.2=encL encTy (t.ar++(t.fl.take y.1).map Fe.t)) (fun y=>n_c4-y.1) (0,r1) ⟨Nat.zero_le _,by simpa using hr1⟩ ?_ ?_
 ·refine ⟨[0,1],rfl,?_⟩
  (cbv;repeat' apply And.intro);all_goals try first|trivial|rfl|(rw [X.a];rfl)
 rintro ⟨i,r⟩ ⟨hi,hr⟩
 simp only at hi hr
 cbv
 refine ⟨fun h1=> ?_,fun h1=> ?_⟩
 ·have h5:i<t.fl.length:=by obtain rfl:=X.a;simp only [hlen_c4,SD,bNot] at h1;omega
  obtain ⟨k0,k1,k2,k3,k4⟩:=fdTyAt X.a hc4 h5
  have hid:A.idx (Int.ofNat i) (A.len c4):=by rw [X.a,hc4];exact leaf_idx h5
  have hin:A.inr .i64 (A.add (Int.ofNat i) 1):=by rw [X.a];exact leaf_inc h5 (by omega)
  have hb2:A.bnd (A.add (A.len r) (A.len (A.lit [[.int (A.asInt (A.cell c4 (Int.ofNat i) 1)),.str (A.asStr (A.cell c4 (Int.ofNat i) 2)),.str (A.asStr (A.cell c4 (Int.ofNat i) 3)),A.cell c4 (Int.ofNat i) 4,A.cell c4 (Int.ofNat i) 5]]))) 4294967296:=by
   rw [X.a,hr];simp only [SD,bNot,List.length_map];omega
  have q1:A.app r (A.lit [[.int (A.asInt (A.cell c4 (Int.ofNat i) 1)),.str (A.asStr (A.cell c4 (Int.ofNat i) 2)),.str (A.asStr (A.cell c4 (Int.ofNat i) 3)),A.cell c4 (Int.ofNat i) 4,A.cell c4 (Int.ofNat i) 5]])=encL encTy (t.ar++(t.fl.take (i+1)).map Fe.t):=by
   rw [k0,k1,k2,k3,k4,X.a,hr,map_take h5,←List.append_assoc,←encTy_eq]
   exact Std_app (k:=[t.fl[i].t])
  cbv
  repeat' (first|apply And.intro|exact fun (_:FF)=>by kernel_rfl|(intro h2;cbv)|apply Or.inl)
  any_goals exact hid
  any_goals exact hb2
  any_goals exact hin
  refine ⟨(i+1,_),⟨?_,q1⟩,?_,[0,1],rfl,?_⟩
  ·simp only;omega
  ·simp only;omega
  (cbv;repeat' apply And.intro);all_goals try first|trivial|rfl|(rw [X.a];rfl)
 have h5:i=n_c4:=by obtain rfl:=X.a;simp only [hlen_c4,SD,bNot] at h1;omega
 subst h5
 rw [hn_c4,List.take_length] at hr
 cbv
 exact h r hr
theorem F63 {env:List IF} {de dv:D} {vs:List S} {t:Ty} (he:de=encL encIF env) (hok:envOk env) (hv:dv=encL encS vs) (hvl:vs.length≤4294967295) {c0:Int} {c1 c2:S} {c3 c4:D} {K:PV→List Ob→Prop} (ht:tyIs t c0 c1 c2 c3 c4)
  (h:∀ r:Int,r=nodeE env vs t→K (.int .i64 r) []):FC Tryz.prog tt 63 [] [.lst 40 de,.lst 9 dv,tyPV c0 c1 c2 c3 c4] K:=by
 obtain ⟨t0,t1,t2,hc3,hc4⟩:=ht
 refine FC.enter (G:=g63) tt_ok mixed ⟨Tryz.func63,by rfl,rfl⟩ rfl rfl rfl ?_
 intro A C L X
 have l3:A.len c3=Int.ofNat t.ar.length:=lenIs X.a hc3
 have hneg:=negA X.a
 have heq:=eqA X.a
 have hpl:∀ d':D,d'=encL encPm (typeR env c1 c2).1.params→A.len d'=Int.ofNat (typeR env c1 c2).1.params.length:=fun d' h=>lenIs X.a h
 unfold nodeE at h
 rw [← t0,←t1,←t2] at h
 cbv
 repeat' (first|apply And.intro|exact fun (_:FF)=>by kernel_rfl|(intro h2;cbv)|apply Or.inl|(refine X.call (F21 hv hvl fun b hb=> ?_);cbv)|(refine X.call (F49 he hok fun e0 e1 e2 e3 e4 e5 e6 e7 e8 e9 e10 e11 r1 r2 hx hr1 hr2=> ?_);cbv))
 ·have h2:A.not b=true:=h2
  have e9:A.eq c0 9=true:=by assumption
  rw [heq] at e9;rw [hneg,hb] at h2
  refine h _ ?_
  rw [if_pos (by simpa using e9),if_neg (by intro e;rw [e] at h2;cases h2)]
 ·have h2:A.not b=false:=h2
  have e9:A.eq c0 9=true:=by assumption
  rw [heq] at e9;rw [hneg,hb] at h2
  refine h _ ?_
  rw [if_pos (by simpa using e9),if_pos (by simpa using h2)]
 ·have h2:A.not (A.eq r2 0)=true:=h2
  have e9:A.eq c0 9=false:=by assumption
  have e10:A.eq c0 10=true:=by assumption
  rw [heq] at e9 e10;rw [hneg,heq,hr2] at h2
  refine h _ ?_
  rw [if_neg (by simpa using e9),if_pos (by simpa using e10),if_pos (by simpa using h2),hr2]
 ·have h2:A.not (A.eq (A.len e1) (A.len c3))=true:=h2
  have h3:A.not (A.eq r2 0)=false:=by assumption
  have e9:A.eq c0 9=false:=by assumption
  have e10:A.eq c0 10=true:=by assumption
  rw [heq] at e9 e10;rw [hneg,heq,hr2] at h3;rw [hneg,heq,hpl _ hx.2.1,l3] at h2
  refine h _ ?_
  rw [if_neg (by simpa using e9),if_pos (by simpa using e10),if_neg (by simpa using h3),if_pos (by intro e;rw [e] at h2;simp at h2)]
 ·have h2:A.not (A.eq (A.len e1) (A.len c3))=false:=h2
  have h3:A.not (A.eq r2 0)=false:=by assumption
  have e9:A.eq c0 9=false:=by assumption
  have e10:A.eq c0 10=true:=by assumption
  rw [heq] at e9 e10;rw [hneg,heq,hr2] at h3;rw [hneg,heq,hpl _ hx.2.1,l3] at h2
  refine h _ ?_
  rw [if_neg (by simpa using e9),if_pos (by simpa using e10),if_neg (by simpa using h3),if_neg (by
   have h2:(Int.ofNat (typeR env c1 c2).1.params.length==Int.ofNat t.ar.length)=true:=by simpa using h2
   have:=eq_of_beq h2
   simp only [Int.ofNat_eq_natCast] at this
   omega)]
 ·have e9:A.eq c0 9=false:=by assumption
  have e10:A.eq c0 10=false:=by assumption
  rw [heq] at e9 e10
  refine h _ ?_
  rw [if_neg (by simpa using e9),if_neg (by simpa using e10)]
theorem F28 {env:List IF} {de dv:D} {vs:List S} (he:de=encL encIF env) (hok:envOk env) (hv:dv=encL encS vs) (hvl:vs.length≤4294967295):
  ∀ (t:Ty),Ty.le 4294967295 t→t.size≤4294967295→∀ {c0:Int} {c1 c2:S} {c3 c4:D} {K:PV→List Ob→Prop},tyIs t c0 c1 c2 c3 c4→(∀ r:Int,r=nodesE env vs t→K (.int .i64 r) [])→FC Tryz.prog tt 28 [] [.lst 40 de,.lst 9 dv,tyPV c0 c1 c2 c3 c4] K:=by
 refine Ty.pinduct fun t ih=> ?_
 intro hle hs c0 c1 c2 c3 c4 K ht h
 obtain ⟨hszs,hpl⟩:=size_pts hs
 refine FC.enter (G:=g28) tt_ok mixed ⟨Tryz.func28,by rfl,rfl⟩ rfl rfl rfl ?_
 intro A C L X
 have hneg:=negA X.a
 have heq:=eqA X.a
 cbv
 refine X.call (F63 he hok hv hvl ht fun e0 he0=> ?_)
 rw [nodesE_eq,←he0] at h
 cbv
 repeat' (first|apply And.intro|exact fun (_:FF)=>by kernel_rfl|(intro h2;cbv)|apply Or.inl)
 ·have h2:A.not (A.eq e0 0)=true:=h2
  rw [hneg,heq] at h2
  refine h _ ?_
  rw [if_neg (by simpa using h2)]
 have h2:A.not (A.eq e0 0)=false:=h2
 rw [hneg,heq] at h2
 rw [if_pos (by simpa using h2)] at h
 refine X.call (F64 hle hpl ht fun rp hrp=> ?_)
 obtain ⟨n_rp,hn_rp,hlen_rp⟩:=lenOf hrp
 cbv
 refine X.loop (fun (i:Nat)=>⟨[(21,.int .i64 i),(20,.int .i64 (A.len rp)),(19,.lst 28 rp),(1,.lst 9 dv),(0,.lst 40 de)],[]⟩)
  (fun i=>i≤n_rp∧firstE (((t.pts.take i).flatMap Ty.all).map (nodeE env vs))=0) (fun i=>n_rp-i) 0 ⟨Nat.zero_le _,rfl⟩ ?_ ?_
 ·(cbv;repeat' apply And.intro);all_goals try first|trivial|rfl|(rw [X.a];rfl)
 rintro i ⟨hi,ha⟩
 cbv
 refine ⟨fun h1=> ?_,fun h1=> ?_⟩
 ·have h5:i<t.pts.length:=by obtain rfl:=X.a;simp only [hlen_rp,SD,bNot] at h1;omega
  have k1:=tyAt X.a hrp h5
  have hid:A.idx (Int.ofNat i) (A.len rp):=by rw [X.a,hrp];exact leaf_idx h5
  have hin:A.inr .i64 (A.add (Int.ofNat i) 1):=by rw [X.a];exact leaf_inc h5 (by omega)
  have e2:t.pts.flatMap Ty.all=(t.pts.take (i+1)).flatMap Ty.all++(t.pts.drop (i+1)).flatMap Ty.all:=by rw [← List.flatMap_append,List.take_append_drop]
  have hst:firstE (((t.pts.take (i+1)).flatMap Ty.all).map (nodeE env vs))=nodesE env vs t.pts[i]:=by
   rw [flat_take h5,List.map_append,firstE_app,ha,if_pos rfl];rfl
  cbv
  repeat' (first|apply And.intro|exact fun (_:FF)=>by kernel_rfl|(intro h2;cbv)|apply Or.inl)
  any_goals exact hid
  refine X.call (ih _ (List.getElem_mem h5) (pts_le hle _ (List.getElem_mem h5)) (hszs _ (List.getElem_mem h5)) k1 fun e1 he1=> ?_)
  rw [← he1] at hst
  cbv
  repeat' (first|apply And.intro|exact fun (_:FF)=>by kernel_rfl|(intro h2;cbv)|apply Or.inl)
  any_goals exact hin
  ·have h2:A.not (A.eq e1 0)=true:=by assumption
   rw [hneg,heq] at h2
   refine h _ ?_
   rw [e2,List.map_append,firstE_app,hst,if_neg (by simpa using h2)]
  ·have h2:A.not (A.eq e1 0)=false:=by assumption
   rw [hneg,heq] at h2
   refine ⟨i+1,⟨by omega,?_⟩,by omega,?_⟩
   ·rw [hst];simpa using h2
   (cbv;repeat' apply And.intro);all_goals try first|trivial|rfl|(rw [X.a];rfl)
 ·have h5:i=n_rp:=by obtain rfl:=X.a;simp only [hlen_rp,SD,bNot] at h1;omega
  cbv
  refine h 0 ?_
  rw [h5,hn_rp,List.take_length] at ha
  exact ha.symm
theorem F10 {env:List IF} {de dv:D} {vs:List S} (he:de=encL encIF env) (hok:envOk env) (hv:dv=encL encS vs) (hvl:vs.length≤4294967295)
  {t:Ty} (hle:Ty.le 4294967295 t) (hs:t.size≤4294967295) (hn:∀ u∈t.all,u.nod) {c0:Int} {c1 c2:S} {c3 c4:D} {K:PV→List Ob→Prop} (ht:tyIs t c0 c1 c2 c3 c4) (h:∀ r:Int,r=wfE env vs t→K (.int .i64 r) []):
  FC Tryz.prog tt 10 [] [.lst 40 de,.lst 9 dv,tyPV c0 c1 c2 c3 c4] K:=by
 refine FC.enter (G:=g10) tt_ok mixed ⟨Tryz.func10,by rfl,rfl⟩ rfl rfl rfl ?_
 intro A C L X
 have hneg:=negA X.a
 have heq:=eqA X.a
 cbv
 refine X.call (F27 hle hs hn ht fun e0 he0=> ?_)
 rw [wfE,←he0] at h
 cbv
 repeat' (first|apply And.intro|exact fun (_:FF)=>by kernel_rfl|(intro h2;cbv)|apply Or.inl)
 ·have h2:A.not (A.eq e0 0)=true:=h2
  rw [hneg,heq] at h2
  exact h _ (by rw [if_pos (by simpa using h2)])
 have h2:A.not (A.eq e0 0)=false:=h2
 rw [hneg,heq] at h2
 rw [if_neg (by simpa using h2)] at h
 refine X.call (F28 he hok hv hvl t hle hs ht fun e1 he1=> ?_)
 cbv
 exact h _ he1
end Go.VC.T07
end

section
namespace Go.VC
open Go
def thinO:Ob→Ob
 | .box cs=>.box (mapL (thin 1) cs)
 |o=>o
theorem thinO_live (o:Ob):(thinO o).live=o.live:=by cases o<;>rfl
theorem OR.thinO {tt:TypeId→Option TI} {E:List RI} {Pp:Per} {w:World} {ri:RI} {o:Ob} (h:OR tt E Pp w ri o):OR tt E Pp w ri (thinO o):=by
 cases o<;>try exact h
 rename_i cs
 cases ri<;>simp only [OR,VC.thinO] at h ⊢
 obtain ⟨vs,T,h1,h2,h3⟩:=h
 exact ⟨vs,T,h1,VRL.mapL (fun _ _=>VR.thin 1) h2,h3⟩
theorem FC.thinObs {P:Program} {tt:TypeId→Option TI} {f:FuncId} {objs objs':List Ob} {args:List PV} {K:PV→List Ob→Prop} (ho:mapL VC.thinO objs=objs') (h:FC P tt f objs' args K):FC P tt f objs args K:=by
 subst ho
 have hget:∀ (i:Nat) o,(mapL VC.thinO objs)[i]? =some o→∃ o0,objs[i]? =some o0∧o=VC.thinO o0:=by
  intro i o hi
  rw [mapL_eq,List.getElem?_map] at hi
  cases hx:objs[i]? with
  |none=>rw [hx] at hi;cases hi
  |some o0=>rw [hx] at hi;cases hi;exact ⟨o0,rfl,rfl⟩
 intro E Pp w vals hw hv
 have hw':WR tt E Pp (mapL VC.thinO objs) w:=by
  refine ⟨by rw [mapL_eq,List.length_map];exact hw.len,hw.pi,?_,?_,hw.gl⟩
  ·intro i o hi hl
   obtain ⟨o0,h0,rfl⟩:=hget i o hi
   rw [thinO_live] at hl
   obtain ⟨ri,h1,h2⟩:=hw.ob i o0 h0 hl
   exact ⟨ri,h1,h2.thinO⟩
  ·intro i j oi oj ri rj b hi hj hli hlj
   obtain ⟨o0,h0,rfl⟩:=hget i oi hi
   obtain ⟨o1,h1,rfl⟩:=hget j oj hj
   rw [thinO_live] at hli hlj
   exact hw.sep i j o0 o1 ri rj b h0 h1 hli hlj
 have hown:own E (mapL VC.thinO objs)=own E objs:=by
  funext b
  apply propext
  constructor
  ·rintro ⟨i,o,ri,h1,h2,h3,h4⟩
   obtain ⟨o0,h0,rfl⟩:=hget i o h1
   exact ⟨i,o0,ri,h0,by rw [thinO_live] at h2;exact h2,h3,h4⟩
  ·rintro ⟨i,o,ri,h1,h2,h3,h4⟩
   refine ⟨i,VC.thinO o,ri,?_,by rw [thinO_live];exact h2,h3,h4⟩
   rw [mapL_eq,List.getElem?_map,h1];rfl
 have:=h E Pp w vals hw' hv
 refine this.mono ?_
 rintro e w' ⟨v,E',Pp',o',pv,h1,h2,h3,h4,h5,h6,h7,h8,h9⟩
 rw [hown] at h7 h8 h9
 exact ⟨v,E',Pp',o',pv,h1,h2,h3,h4,h5,h6,h7,h8,h9⟩
abbrev BB:=Bool×Bool
def orB (a b:BB):BB:=(a.1||b.1,a.2||b.2)
def vary (v:Int) (o:BB):BB:=if v=0 then o else if v=1 then (o.2,o.1) else (o.1||o.2,o.1||o.2)
def varOf (ps:List Pm) (i:Nat):Int:=match ps[i]? with|some p=>p.var|none=>2
mutual
def occ (env:List IF) (x:S):Ty→BB
 | .mk k m n ar fl=>if k=9 then (n==x,false) else if k=10 then occA env x (typeR env m n).1.params 0 ar else orB (occL env x ar) (occF env x (k==8) fl)
def occA (env:List IF) (x:S) (ps:List Pm):Nat→List Ty→BB
 |_,[]=>(false,false)
 |i,t::l=>orB (vary (varOf ps i) (occ env x t)) (occA env x ps (i+1) l)
def occL (env:List IF) (x:S):List Ty→BB
 |[]=>(false,false)
 |t::l=>orB (occ env x t) (occL env x l)
def occF (env:List IF) (x:S) (sw:Bool):List Fe→BB
 |[]=>(false,false)
 | .mk _ t _::l=>orB (if sw then ((occ env x t).2,(occ env x t).1) else occ env x t) (occF env x sw l)
end
def atS (s:Int) (o:BB):Bool:=if 0<s then o.1 else if s<0 then o.2 else o.1||o.2
def upd (s:Int) (o q:BB):BB:=(q.1||atS s o,q.2||atS (-s) o)
theorem orB_assoc (a b c:BB):orB (orB a b) c=orB a (orB b c):=by simp [orB,Bool.or_assoc]
theorem orB_ff (a:BB):orB a (false,false)=a:=by simp [orB]
theorem ff_orB (a:BB):orB (false,false) a=a:=by simp [orB]
theorem upd_or (s:Int) (a b q:BB):upd s (orB a b) q=upd s b (upd s a q):=by
 unfold upd atS orB
 rcases Int.lt_trichotomy s 0 with h|h|h
 ·have h1:¬0<s:=by omega
  have h2:0< -s:=by omega
  simp [h,h1,h2,Bool.or_assoc]
 ·subst h;simp;constructor<;>(cases q.1<;>cases q.2<;>cases a.1<;>cases a.2<;>cases b.1<;>cases b.2<;>rfl)
 ·have h1:¬s<0:=by omega
  have h2:¬0< -s:=by omega
  have h3: -s<0:=by omega
  simp [h,h1,h2,h3,Bool.or_assoc]
theorem upd_ff (s:Int) (q:BB):upd s (false,false) q=q:=by
 unfold upd atS;simp
theorem upd_neg (s:Int) (o q:BB):upd s (o.2,o.1) q=upd (-s) o q:=by
 unfold upd atS
 rcases Int.lt_trichotomy s 0 with h|h|h
 ·have h1:¬0<s:=by omega
  have h2:0< -s:=by omega
  simp [h,h1,h2]
 ·subst h;simp [Bool.or_comm]
 ·have h1:¬s<0:=by omega
  have h2:¬0< -s:=by omega
  have h3: -s<0:=by omega
  simp [h,h1,h2,h3]
theorem upd_both (s:Int) (o q:BB):upd s (o.1||o.2,o.1||o.2) q=upd 0 o q:=by
 unfold upd atS
 rcases Int.lt_trichotomy s 0 with h|h|h
 ·have h1:¬0<s:=by omega
  have h2:0< -s:=by omega
  simp [h,h1,h2]
 ·subst h;simp
 ·have h1:¬s<0:=by omega
  have h2:¬0< -s:=by omega
  have h3: -s<0:=by omega
  simp [h,h1,h2,h3]
theorem upd_vary (s v:Int) (o q:BB):upd s (vary v o) q=if v=0 then upd s o q else if v=1 then upd (-s) o q else upd 0 o q:=by
 unfold vary
 split
 ·rfl
 ·split
  ·exact upd_neg _ _ _
  ·exact upd_both _ _ _
theorem occA_app (env:List IF) (x:S) (ps:List Pm):∀ (l k:List Ty) (i:Nat),occA env x ps i (l++k)=orB (occA env x ps i l) (occA env x ps (i+l.length) k)
 |[],k,i=>by simp [occA,ff_orB]
 |t::l,k,i=>by rw [List.cons_append,occA,occA,occA_app env x ps l k (i+1),orB_assoc];simp [Nat.add_comm,Nat.add_left_comm]
theorem occL_app (env:List IF) (x:S):∀ (l k:List Ty),occL env x (l++k)=orB (occL env x l) (occL env x k)
 |[],k=>by simp [occL,ff_orB]
 |t::l,k=>by rw [List.cons_append,occL,occL,occL_app env x l k,orB_assoc]
theorem occF_app (env:List IF) (x:S) (sw:Bool):∀ (l k:List Fe),occF env x sw (l++k)=orB (occF env x sw l) (occF env x sw k)
 |[],k=>by simp [occF,ff_orB]
 | .mk s t b::l,k=>by rw [List.cons_append,occF,occF,occF_app env x sw l k,orB_assoc]
theorem occA_step {env:List IF} {x:S} {ps:List Pm} {l:List Ty} {i:Nat} (h:i<l.length):occA env x ps 0 (l.take (i+1))=orB (occA env x ps 0 (l.take i)) (vary (varOf ps i) (occ env x l[i])):=by
 rw [take_succ' h,occA_app,Nat.zero_add,List.length_take,Nat.min_eq_left (Nat.le_of_lt h),occA,occA,orB_ff]
theorem occL_step {env:List IF} {x:S} {l:List Ty} {i:Nat} (h:i<l.length):occL env x (l.take (i+1))=orB (occL env x (l.take i)) (occ env x l[i]):=by
 rw [take_succ' h,occL_app,occL,occL,orB_ff]
theorem occF_step {env:List IF} {x:S} {sw:Bool} {l:List Fe} {i:Nat} (h:i<l.length):occF env x sw (l.take (i+1))=orB (occF env x sw (l.take i)) (if sw then ((occ env x l[i].t).2,(occ env x l[i].t).1) else occ env x l[i].t):=by
 rw [take_succ' h,occF_app]
 congr 1
 cases l[i]
 rw [occF,occF,orB_ff];rfl
theorem occ_eq (env:List IF) (x:S) (t:Ty):occ env x t=if t.k=9 then (t.n==x,false) else if t.k=10 then occA env x (typeR env t.m t.n).1.params 0 t.ar else orB (occL env x t.ar) (occF env x (t.k==8) t.fl):=by
 cases t;rw [occ];rfl
def respF (env:List IF) (t:Ty):List S→List Pm→Bool
 |_,[]=>true
 |seen,p::l=>if seen.contains p.name then respF env t seen l else
  if (p.var=0∧(occ env p.name t).2=true)∨(p.var=1∧(occ env p.name t).1=true) then false else respF env t (seen++[p.name]) l
end Go.VC
namespace Go.VC.T07
open Go Go.VC Go.Proofs
def g48a:Cfg:={tt:=tt,n:=128,live:=[48],keep:=[48],n0:=5}
end Go.VC.T07
end

section
namespace Go.VC.T07
open Go Go.VC Go.Proofs
def isBV (b:Bool) (P:PV):Prop:=P= .bool b∨P= .bl b
abbrev O48w (P N:PV) (x:S) (de:D):List Ob:=[.box [P],.box [.str x],.box [N],.box [.lst 40 de],.box [.clos 48 [.box 0 0,.box 1 0,.box 2 0,.box 3 0,.box 4 0]]]
theorem F48 {env:List IF} {de:D} {x:S} (he:de=encL encIF env) (hok:envOk env):
  ∀ (t:Ty),Ty.le 4294967295 t→∀ {s:Int} (hs: -1≤s∧s≤1) {p n:Bool} {P N:PV} (hP:isBV p P) (hN:isBV n N) {c0:Int} {c1 c2:S} {c3 c4:D} {K:PV→List Ob→Prop},tyIs t c0 c1 c2 c3 c4→
   (∀ p' n' P' N',isBV p' P'→isBV n' N'→(p',n')=upd s (occ env x t) (p,n)→K (.tup []) (O48w P' N' x de))→
   FC Tryz.prog tt 48 (O48w P N x de) [tyPV c0 c1 c2 c3 c4,.int .i64 s,.box 0 0,.box 1 0,.box 2 0,.box 3 0,.box 4 0] K:=by
 refine Ty.pinduct fun t ih=> ?_
 intro hle s hs p n P N hP hN c0 c1 c2 c3 c4 K ht h
 refine FC.thinObs (objs':=O48w (.bool p) (.bool n) x de) (by rcases hP with rfl|rfl<;>rcases hN with rfl|rfl<;>rfl) ?_
 clear hP hN P N
 have ht':=ht
 obtain ⟨t0,t1,t2,hc3,hc4⟩:=ht'
 rw [occ_eq,←t0,←t1,←t2] at h
 have har:t.ar.length≤4294967295:=by cases hle;assumption
 have hfl:t.fl.length≤4294967295:=by cases hle;assumption
 have iha:∀ i (hi:i<t.ar.length),_:=fun i hi=>ih t.ar[i] (by simp [Ty.pts])
 have ihf:∀ i (hi:i<t.fl.length),_:=fun i hi=>ih t.fl[i].t (by simp only [Ty.pts,List.mem_append,List.mem_map];exact .inr ⟨_,List.getElem_mem hi,rfl⟩)
 have hla:∀ i (hi:i<t.ar.length),Ty.le 4294967295 t.ar[i]:=fun i hi=>pts_le hle _ (by simp [Ty.pts])
 have hlf:∀ i (hi:i<t.fl.length),Ty.le 4294967295 t.fl[i].t:=fun i hi=>pts_le hle _ (by simp only [Ty.pts,List.mem_append,List.mem_map];exact .inr ⟨_,List.getElem_mem hi,rfl⟩)
 clear ih
 refine FC.enterLive (G:=g48a) tt_ok mixed ⟨Tryz.func48,by rfl,rfl⟩ rfl rfl rfl ?_
 intro A C L X
 have hneg:=negA X.a
 have heq:=eqA X.a
 have hin0:A.inr .i64 (A.sub 0 s):=by rw [X.a,Std_inr64,Std_sub];omega
 have hm:A.sub 0 s= -s:=by rw [X.a,Std_sub];omega
 by_cases h9:c0=9
 ·have e9:A.eq c0 9=true:=by rw [heq,h9];rfl
  rw [if_pos h9] at h
  have hu:∀ p' n' P' N',isBV p' P'→isBV n' N'→p'=(p||((c2==x)&&decide (0≤s)))→n'=(n||((c2==x)&&decide (s≤0)))→K (.tup []) (O48w P' N' x de):=by
   intro p' n' P' N' hP' hN' hp hn'
   refine h p' n' P' N' hP' hN' ?_
   rw [hp,hn']
   unfold upd atS
   rcases Int.lt_trichotomy s 0 with h|h|h
   ·have h1:¬0<s:=by omega
    have h2:0< -s:=by omega
    have h3:¬0≤s:=by omega
    have h4:s≤0:=by omega
    simp [h,h1,h2,h3,h4]
   ·subst h;simp
   ·have h1:¬s<0:=by omega
    have h2:¬0< -s:=by omega
    have h3: -s<0:=by omega
    have h4:¬s≤0:=by omega
    have h5:0≤s:=by omega
    simp [h,h1,h2,h3,h4,h5]
  have hsq:A.seq c2 x=(c2==x):=by rw [X.a];rfl
  have hle0:A.le 0 s=decide (0≤s):=by rw [X.a];rfl
  have hle1:A.le s 0=decide (s≤0):=by rw [X.a];rfl
  clear h iha ihf
  cbv
  repeat' (first|apply And.intro|exact fun (_:FF)=>by kernel_rfl|(intro h2;first|exact absurd ((e9).symm.trans h2) (by decide)|cbv)|apply Or.inl)
  all_goals (first
   |(refine hu _ _ _ _ (.inl rfl) (.inl rfl) ?_ ?_<;>(clear hu;simp only [bNot,hsq,hle0,hle1] at *;simp_all;done))
   |(refine hu _ _ _ _ (.inl rfl) (.inr rfl) ?_ ?_<;>(clear hu;simp only [bNot,hsq,hle0,hle1] at *;simp_all;done))
   |(refine hu _ _ _ _ (.inr rfl) (.inl rfl) ?_ ?_<;>(clear hu;simp only [bNot,hsq,hle0,hle1] at *;simp_all;done))
   |(refine hu _ _ _ _ (.inr rfl) (.inr rfl) ?_ ?_<;>(clear hu;simp only [bNot,hsq,hle0,hle1] at *;simp_all;done)))
 rw [if_neg h9] at h
 have e9:A.eq c0 9=false:=by rw [heq];simpa using h9
 have hsn: -1≤A.sub 0 s∧A.sub 0 s≤1:=by rw [hm];omega
 have hs0:(-1:Int)≤0∧(0:Int)≤1:=by decide
 by_cases h10:c0=10
 ·have e10:A.eq c0 10=true:=by rw [heq,h10];rfl
  rw [if_pos h10] at h
  cbv
  repeat' (first|apply And.intro|exact fun (_:FF)=>by kernel_rfl|(intro h2;first|exact absurd ((e9).symm.trans h2) (by decide)|exact absurd ((e10).symm.trans h2) (by decide)|cbv)|apply Or.inl|(refine X.call (F49 he hok fun w0 w1 w2 w3 w4 w5 w6 w7 w8 w9 w10 w11 r1 r2 hx hr1 hr2=> ?_);cbv))
  obtain ⟨ps,hps⟩:∃ ps,ps=(typeR env c1 c2).1.params:=⟨_,rfl⟩
  have hw1:w1=encL encPm ps:=by rw [hps];exact hx.2.1
  rw [← hps] at h
  clear hps hx hr1 hr2
  obtain ⟨n_c3,hn_c3,hlen_c3⟩:=lenOf hc3
  have lps:A.len w1=Int.ofNat ps.length:=lenIs X.a hw1
  refine X.loopP (fun (y:Nat×(Bool×Bool))=>⟨[(94,.int .i64 y.1),(93,.int .i64 (A.len c3)),(92,.lst 28 c3),(1,.int .i64 s),(2,.box 0 0),(3,.box 1 0),(4,.box 2 0),(5,.box 3 0),(6,.box 4 0),(9,.box 6 0)],[.box [.bool y.2.1],.box [.str x],.box [.bool y.2.2],.box [.lst 40 de],.box [.clos 48 [.box 0 0,.box 1 0,.box 2 0,.box 3 0,.box 4 0]],.box [.int .i64 c0,.str c1,.str c2,.lst 28 c3,.lst 65 c4],.box [.str w0,.lst 53 w1,.int .i64 w2,.str w3,.str w4,.lst 28 w5,.lst 65 w6,.int .i64 w7,.str w8,.str w9,.lst 28 w10,.lst 65 w11]]⟩)
   (fun y=>y.1≤n_c3∧(y.2.1,y.2.2)=upd s (occA env x ps 0 (t.ar.take y.1)) (p,n)) (fun y=>n_c3-y.1) (0,(p,n)) ⟨Nat.zero_le _,by simp only;rw [List.take_zero,occA,upd_ff]⟩ ?_ ?_
  ·refine ⟨[0,1,2,3,4,5,6],rfl,?_⟩
   (cbv;repeat' apply And.intro);all_goals try first|trivial|rfl|(rw [X.a];rfl)
  rintro ⟨i,p',n'⟩ ⟨hi,hq⟩
  simp only at hi hq
  cbv
  refine ⟨fun h1=> ?_,fun h1=> ?_⟩
  ·have h5:i<t.ar.length:=by obtain rfl:=X.a;simp only [hlen_c3,SD,bNot] at h1;omega
   have k1:=tyAt X.a hc3 h5
   have hid:A.idx (Int.ofNat i) (A.len c3):=by rw [X.a,hc3];exact leaf_idx h5
   have hin:A.inr .i64 (A.add (Int.ofNat i) 1):=by rw [X.a];exact leaf_inc h5 (by omega)
   have hst:=occA_step (env:=env) (x:=x) (ps:=ps) h5
   by_cases hpi:i<ps.length
   ·have eps:A.lt (Int.ofNat i) (A.len w1)=true:=by rw [lps,X.a,Std_lt];exact decide_eq_true (by simp only [Int.ofNat_eq_natCast];omega)
    have hid2:A.idx (Int.ofNat i) (A.len w1):=by rw [X.a,hw1];exact leaf_idx hpi
    have kv:=(pmAt X.a hw1 hpi).2
    have hvo:varOf ps i=ps[i].var:=by rw [varOf,List.getElem?_eq_getElem hpi]
    rw [hvo,←kv] at hst
    obtain ⟨v,hv⟩:∃ v,v=A.asInt (A.cell w1 (Int.ofNat i) 1):=⟨_,rfl⟩
    by_cases hv0:A.asInt (A.cell w1 (Int.ofNat i) 1)=0
    ·have ph0:A.eq (A.asInt (A.cell w1 (Int.ofNat i) 1)) 0=true:=by rw [heq,hv0];rfl
     cbv
     repeat' (first|apply And.intro|exact fun (_:FF)=>by kernel_rfl|(intro h2;first|exact absurd ((eps).symm.trans h2) (by decide)|exact absurd ((ph0).symm.trans h2) (by decide)|cbv)|apply Or.inl|(refine X.call (iha i h5 (hla i h5) hs (.inl rfl) (.inl rfl) k1 fun p'' n'' P'' N'' hP'' hN'' hu=> ?_);cbv))
     any_goals first|exact hid|exact hin|exact hin0|exact hid2
     have hfin:(p'',n'')=upd s (occA env x ps 0 (t.ar.take (i+1))) (p,n):=by rw [hst,upd_or,upd_vary,if_pos hv0,←hq];exact hu
     rcases hP'' with rfl|rfl<;>rcases hN'' with rfl|rfl<;>(refine ⟨(i+1,(p'',n'')),⟨by simp only;omega,hfin⟩,by simp only;omega,[0,1,2,3,4,5,6],rfl,?_⟩;(cbv;repeat' apply And.intro);all_goals try first|trivial|rfl|(rw [X.a];rfl))
    by_cases hv1:A.asInt (A.cell w1 (Int.ofNat i) 1)=1
    ·have ph0:A.eq (A.asInt (A.cell w1 (Int.ofNat i) 1)) 0=false:=by rw [heq];simpa using hv0
     have ph1:A.eq (A.asInt (A.cell w1 (Int.ofNat i) 1)) 1=true:=by rw [heq,hv1];rfl
     cbv
     repeat' (first|apply And.intro|exact fun (_:FF)=>by kernel_rfl|(intro h2;first|exact absurd ((eps).symm.trans h2) (by decide)|exact absurd ((ph0).symm.trans h2) (by decide)|exact absurd ((ph1).symm.trans h2) (by decide)|cbv)|apply Or.inl|(refine X.call (iha i h5 (hla i h5) hsn (.inl rfl) (.inl rfl) k1 fun p'' n'' P'' N'' hP'' hN'' hu=> ?_);cbv))
     any_goals first|exact hid|exact hin|exact hin0|exact hid2
     have hfin:(p'',n'')=upd s (occA env x ps 0 (t.ar.take (i+1))) (p,n):=by rw [hst,upd_or,upd_vary,if_neg hv0,if_pos hv1,←hq,←hm];exact hu
     rcases hP'' with rfl|rfl<;>rcases hN'' with rfl|rfl<;>(refine ⟨(i+1,(p'',n'')),⟨by simp only;omega,hfin⟩,by simp only;omega,[0,1,2,3,4,5,6],rfl,?_⟩;(cbv;repeat' apply And.intro);all_goals try first|trivial|rfl|(rw [X.a];rfl))
    ·have ph0:A.eq (A.asInt (A.cell w1 (Int.ofNat i) 1)) 0=false:=by rw [heq];simpa using hv0
     have ph1:A.eq (A.asInt (A.cell w1 (Int.ofNat i) 1)) 1=false:=by rw [heq];simpa using hv1
     cbv
     repeat' (first|apply And.intro|exact fun (_:FF)=>by kernel_rfl|(intro h2;first|exact absurd ((eps).symm.trans h2) (by decide)|exact absurd ((ph0).symm.trans h2) (by decide)|exact absurd ((ph1).symm.trans h2) (by decide)|cbv)|apply Or.inl|(refine X.call (iha i h5 (hla i h5) hs0 (.inl rfl) (.inl rfl) k1 fun p'' n'' P'' N'' hP'' hN'' hu=> ?_);cbv))
     any_goals first|exact hid|exact hin|exact hin0|exact hid2
     have hfin:(p'',n'')=upd s (occA env x ps 0 (t.ar.take (i+1))) (p,n):=by rw [hst,upd_or,upd_vary,if_neg hv0,if_neg hv1,←hq];exact hu
     rcases hP'' with rfl|rfl<;>rcases hN'' with rfl|rfl<;>(refine ⟨(i+1,(p'',n'')),⟨by simp only;omega,hfin⟩,by simp only;omega,[0,1,2,3,4,5,6],rfl,?_⟩;(cbv;repeat' apply And.intro);all_goals try first|trivial|rfl|(rw [X.a];rfl))
   ·have eps:A.lt (Int.ofNat i) (A.len w1)=false:=by rw [lps,X.a,Std_lt];exact decide_eq_false (by simp only [Int.ofNat_eq_natCast];omega)
    have ph0:A.eq 2 0=false:=by rw [heq];rfl
    have ph1:A.eq 2 1=false:=by rw [heq];rfl
    have hvo:varOf ps i=2:=by rw [varOf,List.getElem?_eq_none (by omega)]
    rw [hvo] at hst
    cbv
    repeat' (first|apply And.intro|exact fun (_:FF)=>by kernel_rfl|(intro h2;first|exact absurd ((eps).symm.trans h2) (by decide)|exact absurd ((ph0).symm.trans h2) (by decide)|exact absurd ((ph1).symm.trans h2) (by decide)|cbv)|apply Or.inl|(refine X.call (iha i h5 (hla i h5) hs0 (.inl rfl) (.inl rfl) k1 fun p'' n'' P'' N'' hP'' hN'' hu=> ?_);cbv))
    any_goals first|exact hid|exact hin|exact hin0
    have hfin:(p'',n'')=upd s (occA env x ps 0 (t.ar.take (i+1))) (p,n):=by rw [hst,upd_or,upd_vary,if_neg (by decide),if_neg (by decide),←hq];exact hu
    rcases hP'' with rfl|rfl<;>rcases hN'' with rfl|rfl<;>(refine ⟨(i+1,(p'',n'')),⟨by simp only;omega,hfin⟩,by simp only;omega,[0,1,2,3,4,5,6],rfl,?_⟩;(cbv;repeat' apply And.intro);all_goals try first|trivial|rfl|(rw [X.a];rfl))
  ·have h5:i=n_c3:=by obtain rfl:=X.a;simp only [hlen_c3,SD,bNot] at h1;omega
   rw [h5,hn_c3,List.take_length] at hq
   cbv
   exact h p' n' _ _ (.inl rfl) (.inl rfl) hq
 have e10:A.eq c0 10=false:=by rw [heq];simpa using h10
 rw [if_neg h10] at h
 cbv
 repeat' (first|apply And.intro|exact fun (_:FF)=>by kernel_rfl|(intro h2;first|exact absurd ((e9).symm.trans h2) (by decide)|exact absurd ((e10).symm.trans h2) (by decide)|cbv)|apply Or.inl)
 obtain ⟨n_c3,hn_c3,hlen_c3⟩:=lenOf hc3
 obtain ⟨n_c4,hn_c4,hlen_c4⟩:=lenOf hc4
 refine X.loopP (fun (y:Nat×(Bool×Bool))=>⟨[(24,.int .i64 y.1),(23,.int .i64 (A.len c3)),(22,.lst 28 c3),(1,.int .i64 s),(2,.box 0 0),(3,.box 1 0),(4,.box 2 0),(5,.box 3 0),(6,.box 4 0),(7,.box 5 0)],[.box [.bool y.2.1],.box [.str x],.box [.bool y.2.2],.box [.lst 40 de],.box [.clos 48 [.box 0 0,.box 1 0,.box 2 0,.box 3 0,.box 4 0]],.box [.int .i64 c0,.str c1,.str c2,.lst 28 c3,.lst 65 c4]]⟩)
  (fun y=>y.1≤n_c3∧(y.2.1,y.2.2)=upd s (occL env x (t.ar.take y.1)) (p,n)) (fun y=>n_c3-y.1) (0,(p,n)) ⟨Nat.zero_le _,by simp only;rw [List.take_zero,occL,upd_ff]⟩ ?_ ?_
 ·refine ⟨[0,1,2,3,4,5],rfl,?_⟩
  (cbv;repeat' apply And.intro);all_goals try first|trivial|rfl|(rw [X.a];rfl)
 rintro ⟨i,p',n'⟩ ⟨hi,hq⟩
 simp only at hi hq
 cbv
 refine ⟨fun h1=> ?_,fun h1=> ?_⟩
 ·have h5:i<t.ar.length:=by obtain rfl:=X.a;simp only [hlen_c3,SD,bNot] at h1;omega
  have k1:=tyAt X.a hc3 h5
  have hid:A.idx (Int.ofNat i) (A.len c3):=by rw [X.a,hc3];exact leaf_idx h5
  have hin:A.inr .i64 (A.add (Int.ofNat i) 1):=by rw [X.a];exact leaf_inc h5 (by omega)
  have hst:=occL_step (env:=env) (x:=x) h5
  cbv
  repeat' (first|apply And.intro|exact fun (_:FF)=>by kernel_rfl|(intro h2;first|exact absurd ((e9).symm.trans h2) (by decide)|cbv)|apply Or.inl|(refine X.call (iha i h5 (hla i h5) hs (.inl rfl) (.inl rfl) k1 fun p'' n'' P'' N'' hP'' hN'' hu=> ?_);cbv))
  any_goals first|exact hid|exact hin|exact hin0
  have hfin:(p'',n'')=upd s (occL env x (t.ar.take (i+1))) (p,n):=by rw [hst,upd_or,←hq];exact hu
  rcases hP'' with rfl|rfl<;>rcases hN'' with rfl|rfl<;>(refine ⟨(i+1,(p'',n'')),⟨by simp only;omega,hfin⟩,by simp only;omega,[0,1,2,3,4,5],rfl,?_⟩;(cbv;repeat' apply And.intro);all_goals try first|trivial|rfl|(rw [X.a];rfl))
 have h5:i=n_c3:=by obtain rfl:=X.a;simp only [hlen_c3,SD,bNot] at h1;omega
 rw [h5,hn_c3,List.take_length] at hq
 obtain ⟨p0,n0,hpn⟩:∃ a b,a=p'∧b=n':=⟨_,_,rfl,rfl⟩
 clear h5 h1 hi
 cbv
 refine X.loopP (fun (y:Nat×(Bool×Bool))=>⟨[(36,.int .i64 y.1),(35,.int .i64 (A.len c4)),(34,.lst 65 c4),(1,.int .i64 s),(2,.box 0 0),(3,.box 1 0),(4,.box 2 0),(5,.box 3 0),(6,.box 4 0),(7,.box 5 0)],[.box [.bool y.2.1],.box [.str x],.box [.bool y.2.2],.box [.lst 40 de],.box [.clos 48 [.box 0 0,.box 1 0,.box 2 0,.box 3 0,.box 4 0]],.box [.int .i64 c0,.str c1,.str c2,.lst 28 c3,.lst 65 c4]]⟩)
  (fun y=>y.1≤n_c4∧(y.2.1,y.2.2)=upd s (orB (occL env x t.ar) (occF env x (t.k==8) (t.fl.take y.1))) (p,n)) (fun y=>n_c4-y.1) (0,(p',n')) ⟨Nat.zero_le _,by simp only;rw [List.take_zero,occF,orB_ff];exact hq⟩ ?_ ?_
 ·refine ⟨[0,1,2,3,4,5],rfl,?_⟩
  (cbv;repeat' apply And.intro);all_goals try first|trivial|rfl|(rw [X.a];rfl)
 clear hq hpn
 rintro ⟨i,p',n'⟩ ⟨hi,hq⟩
 simp only at hi hq
 cbv
 refine ⟨fun h1=> ?_,fun h1=> ?_⟩
 ·have h5:i<t.fl.length:=by obtain rfl:=X.a;simp only [hlen_c4,SD,bNot] at h1;omega
  have k1:=fdTyAt X.a hc4 h5
  have hid:A.idx (Int.ofNat i) (A.len c4):=by rw [X.a,hc4];exact leaf_idx h5
  have hin:A.inr .i64 (A.add (Int.ofNat i) 1):=by rw [X.a];exact leaf_inc h5 (by omega)
  have hst:=occF_step (env:=env) (x:=x) (sw:=(t.k==8)) h5
  by_cases h8:c0=8
  ·have e8:A.eq c0 8=true:=by rw [heq,h8];rfl
   have hsw:(t.k==8)=true:=by rw [← t0,h8];rfl
   cbv
   repeat' (first|apply And.intro|exact fun (_:FF)=>by kernel_rfl|(intro h2;first|exact absurd ((e8).symm.trans h2) (by decide)|cbv)|apply Or.inl|(refine X.call (ihf i h5 (hlf i h5) hsn (.inl rfl) (.inl rfl) k1 fun p'' n'' P'' N'' hP'' hN'' hu=> ?_);cbv))
   any_goals first|exact hid|exact hin|exact hin0
   have hfin:(p'',n'')=upd s (orB (occL env x t.ar) (occF env x (t.k==8) (t.fl.take (i+1)))) (p,n):=by rw [hst,←orB_assoc,upd_or,←hq,if_pos hsw,upd_neg,←hm];exact hu
   rcases hP'' with rfl|rfl<;>rcases hN'' with rfl|rfl<;>(refine ⟨(i+1,(p'',n'')),⟨by simp only;omega,hfin⟩,by simp only;omega,[0,1,2,3,4,5],rfl,?_⟩;(cbv;repeat' apply And.intro);all_goals try first|trivial|rfl|(rw [X.a];rfl))
  ·have e8:A.eq c0 8=false:=by rw [heq];simpa using h8
   have hsw:¬(t.k==8)=true:=by rw [← t0];simpa using h8
   cbv
   repeat' (first|apply And.intro|exact fun (_:FF)=>by kernel_rfl|(intro h2;first|exact absurd ((e8).symm.trans h2) (by decide)|cbv)|apply Or.inl|(refine X.call (ihf i h5 (hlf i h5) hs (.inl rfl) (.inl rfl) k1 fun p'' n'' P'' N'' hP'' hN'' hu=> ?_);cbv))
   any_goals first|exact hid|exact hin|exact hin0
   have hfin:(p'',n'')=upd s (orB (occL env x t.ar) (occF env x (t.k==8) (t.fl.take (i+1)))) (p,n):=by rw [hst,←orB_assoc,upd_or,←hq,if_neg hsw];exact hu
   rcases hP'' with rfl|rfl<;>rcases hN'' with rfl|rfl<;>(refine ⟨(i+1,(p'',n'')),⟨by simp only;omega,hfin⟩,by simp only;omega,[0,1,2,3,4,5],rfl,?_⟩;(cbv;repeat' apply And.intro);all_goals try first|trivial|rfl|(rw [X.a];rfl))
 have h5:i=n_c4:=by obtain rfl:=X.a;simp only [hlen_c4,SD,bNot] at h1;omega
 rw [h5,hn_c4,List.take_length] at hq
 rw [t0] at h
 cbv
 exact h p' n' _ _ (.inl rfl) (.inl rfl) hq
end Go.VC.T07
end

section
namespace Go.VC
def Pm.wt (p:Pm):Nat:=1+p.bound.size
def TE.wt (x:TE):Nat:=1+(x.params.map Pm.wt).sum+x.lower.size+x.upper.size
def VE.wt (x:VE):Nat:=1+(x.params.map Pm.wt).sum+x.ty.size
def IF.wt (x:IF):Nat:=1+(x.types.map TE.wt).sum+(x.values.map VE.wt).sum+x.aliases.length+x.deprecated.length
theorem wt_mem {α:Type} {f:α→Nat} {l:List α} {x:α} (h:x∈l):f x≤(l.map f).sum:=le_sum (List.mem_map.2 ⟨x,h,rfl⟩)
def tyMods (t:Ty):List S:=t.uses.map (·.1)
def pmMods (l:List Pm):List S:=l.flatMap fun p=>tyMods p.bound
def teMods (x:TE):List S:=pmMods x.params++tyMods x.lower++tyMods x.upper
def veMods (x:VE):List S:=pmMods x.params++tyMods x.ty
def mentL (x:IF):List S:=x.types.flatMap teMods++x.values.flatMap veMods++x.aliases.map (·.module)
theorem tyMods_len (t:Ty):(tyMods t).length≤t.size:=by unfold tyMods;rw [List.length_map];exact uses_len t
theorem flat_len {α β:Type} {f:α→List β} {g:α→Nat}:∀ {l:List α},(∀ x∈l,(f x).length≤g x)→(l.flatMap f).length≤(l.map g).sum
 |[],_=>by simp
 |x::l,h=>by
  have a:=h x (by simp)
  have b:=flat_len (l:=l) (f:=f) (g:=g) fun y hy=>h y (by simp [hy])
  simp only [List.flatMap_cons,List.length_append,List.map_cons,List.sum_cons];omega
theorem pmMods_len (l:List Pm):(pmMods l).length≤(l.map Pm.wt).sum:=flat_len fun p _=>by have:=tyMods_len p.bound;unfold Pm.wt;omega
theorem mentL_len (x:IF):(mentL x).length≤x.wt:=by
 have a:=flat_len (l:=x.types) (f:=teMods) (g:=TE.wt) fun y _=>by
  have:=pmMods_len y.params;have:=tyMods_len y.lower;have:=tyMods_len y.upper
  simp only [teMods,List.length_append,TE.wt];omega
 have b:=flat_len (l:=x.values) (f:=veMods) (g:=VE.wt) fun y _=>by
  have:=pmMods_len y.params;have:=tyMods_len y.ty
  simp only [veMods,List.length_append,VE.wt];omega
 simp only [mentL,List.length_append,List.length_map,IF.wt];omega
def SetIs (m:List (S×Bool)) (L:List S):Prop:=(m.map (·.1)).Nodup∧∀ s,s∈m.map (·.1)↔s∈L
theorem SetIs.nil:SetIs [] []:=⟨by simp,by simp⟩
theorem SetIs.add {m:List (S×Bool)} {L:List S} (h:SetIs m L) (l:List S):SetIs (addKs m l) (L++l):=
 ⟨addKs_nodup h.1,fun s=>by rw [addKs_keys,h.2,List.mem_append];exact Or.comm⟩
theorem SetIs.of {m:List (S×Bool)} {L L':List S} (h:SetIs m L) (e:∀ s,s∈L↔s∈L'):SetIs m L':=⟨h.1,fun s=>by rw [h.2,e]⟩
theorem SetIs.len {m:List (S×Bool)} {L:List S} (h:SetIs m L):m.length≤L.length:=by
 have:=nodup_sub_len h.1 (m:=L) fun s hs=>(h.2 s).1 hs
 simpa using this
def delK (m:List (S×Bool)) (k:S):List (S×Bool):=m.eraseP fun x=>k==x.1
theorem Std_delK {m:List (S×Bool)} {k:S}:Std.mdel (encL encKB m) (.str k)=encL encKB (delK m k):=by
 simp only [Std,std,encL,rowsD,delK]
 congr 1
 rw [List.eraseP_map]
 rfl
theorem SetIs.del {m:List (S×Bool)} {L:List S} (h:SetIs m L) (k:S):SetIs (delK m k) (L.filter fun s=>s != k):=by
 obtain ⟨h1,h2⟩:=h
 have key:∀ m:List (S×Bool),(m.map (·.1)).Nodup→((delK m k).map (·.1)).Nodup∧∀ s,s∈(delK m k).map (·.1)↔s∈m.map (·.1)∧s≠k:=by
  intro m hn
  refine ⟨hn.sublist (List.Sublist.map _ List.eraseP_sublist),?_⟩
  induction m with
  |nil=>simp [delK]
  |cons x m ih=>
   rw [List.map_cons,List.nodup_cons] at hn
   intro s
   by_cases hk:k=x.1
   ·have e:delK (x::m) k=m:=by unfold delK;rw [List.eraseP_cons_of_pos (by simp [hk])]
    rw [e]
    constructor
    ·intro hs;exact ⟨by simp only [List.map_cons,List.mem_cons];exact .inr hs,fun e=>hn.1 (by rw [← hk,←e];exact hs)⟩
    ·rintro ⟨hs,hne⟩
     rcases List.mem_cons.1 (by simpa only [List.map_cons] using hs) with e|e
     ·exact absurd (e.trans hk.symm) hne
     ·exact e
   ·have e:delK (x::m) k=x::delK m k:=by unfold delK;rw [List.eraseP_cons_of_neg (by simpa using hk)]
    rw [e,List.map_cons,List.mem_cons,ih hn.2,List.map_cons,List.mem_cons]
    constructor
    ·rintro (h|⟨h,h'⟩)
     ·exact ⟨.inl h,fun e=>hk (e.symm.trans h)⟩
     ·exact ⟨.inr h,h'⟩
    ·rintro ⟨h|h,h'⟩
     ·exact .inl h
     ·exact .inr ⟨h,h'⟩
 obtain ⟨k1,k2⟩:=key m h1
 exact ⟨k1,fun s=>by rw [k2,h2,List.mem_filter];simp⟩
end Go.VC
namespace Go.VC.T07
open Go Go.VC Go.Proofs
theorem uAt {A:Alg} {d:D} {i:Nat} {l:List U} (ha:A=Std) (hd:d=encL encU l) (h:i<l.length):A.asStr (A.cell d (Int.ofNat i) 0)=l[i].1∧A.asStr (A.cell d (Int.ofNat i) 1)=l[i].2:=by
 simp only [cellAt ha hd h];subst ha;exact ⟨rfl,rfl⟩
theorem F73 {t:Ty} (hle:Ty.le 4294967295 t) (hs:t.size≤4294967295) {m:List (S×Bool)} {ls:List S} {d:D} {c0:Int} {c1 c2:S} {c3 c4:D} {K:PV→List Ob→Prop} (ht:tyIs t c0 c1 c2 c3 c4) (hd:d=encL encKB m) (hm:SetIs m ls)
  (h:∀ m' r,r=encL encKB m'→SetIs m' (ls++tyMods t)→K (.tup []) [.box [.mp 1],.map .str 4 r]):FC Tryz.prog tt 73 [.box [.mp 1],.map .str 4 d] [tyPV c0 c1 c2 c3 c4,.box 0 0] K:=by
 have hul:=uses_len t
 refine FC.enterLive (G:=g73) tt_ok mixed ⟨Tryz.func73,by rfl,rfl⟩ rfl rfl rfl ?_
 intro A C L X
 cbv
 refine X.call (F74 hle hs ht fun l rl hrl hsl hml=> ?_)
 have hll:l.length≤t.uses.length:=nodup_sub_len (SrtU_nodup hsl) fun u hu=>(hml u).1 hu
 obtain ⟨n_rl,hn_rl,hlen_rl⟩:=lenOf hrl
 cbv
 refine X.loop (fun (y:Nat×D)=>⟨[(8,.int .i64 y.1),(7,.int .i64 (A.len rl)),(6,.lst 124 rl),(1,.box 0 0)],[.box [.mp 1],.map .str 4 y.2]⟩)
  (fun y=>y.1≤n_rl∧y.2=encL encKB (addKs m ((l.take y.1).map (·.1)))) (fun y=>n_rl-y.1) (0,d) ⟨Nat.zero_le _,by simpa [addKs] using hd⟩ ?_ ?_
 ·(cbv;repeat' apply And.intro);all_goals try first|trivial|rfl|(rw [X.a];rfl)
 rintro ⟨i,r⟩ ⟨hi,hr⟩
 simp only at hi hr
 cbv
 refine ⟨fun h1=> ?_,fun h1=> ?_⟩
 ·have h5:i<l.length:=by obtain rfl:=X.a;simp only [hlen_rl,SD,bNot] at h1;omega
  have k1:=(uAt X.a hrl h5).1
  have hid:A.idx (Int.ofNat i) (A.len rl):=by rw [X.a,hrl];exact leaf_idx h5
  have hin:A.inr .i64 (A.add (Int.ofNat i) 1):=by rw [X.a];exact leaf_inc h5 (by omega)
  have q1:A.mset r (.str (A.asStr (A.cell rl (Int.ofNat i) 0))) [.bool true]=encL encKB (addKs m ((l.take (i+1)).map (·.1))):=by
   rw [k1,X.a,hr,Std_addK,map_take h5,addKs_snoc]
  cbv
  repeat' (first|apply And.intro|exact fun (_:FF)=>by kernel_rfl|(intro h2;cbv)|apply Or.inl)
  any_goals exact hid
  any_goals exact hin
  refine ⟨(i+1,_),⟨?_,q1⟩,?_,?_⟩
  ·simp only;omega
  ·simp only;omega
  (cbv;repeat' apply And.intro);all_goals try first|trivial|rfl|(rw [X.a];rfl)
 have h5:i=n_rl:=by obtain rfl:=X.a;simp only [hlen_rl,SD,bNot] at h1;omega
 subst h5
 rw [hn_rl,List.take_length] at hr
 cbv
 refine h _ r hr ((hm.add (l.map (·.1))).of fun s=> ?_)
 simp only [List.mem_append,tyMods,List.mem_map]
 constructor
 ·rintro (h|⟨u,hu,e⟩)
  ·exact .inl h
  ·exact .inr ⟨u,(hml u).1 hu,e⟩
 ·rintro (h|⟨u,hu,e⟩)
  ·exact .inl h
  ·exact .inr ⟨u,(hml u).2 hu,e⟩
theorem F75 {l:List Pm} (hl:l.length≤4294967295) (hok:∀ p∈l,p.ok) (hsz:∀ p∈l,p.bound.size≤4294967295) {m:List (S×Bool)} {ls:List S} {d dl:D} {K:PV→List Ob→Prop} (hdl:dl=encL encPm l) (hd:d=encL encKB m) (hm:SetIs m ls)
  (h:∀ m' r,r=encL encKB m'→SetIs m' (ls++pmMods l)→K (.tup []) [.box [.clos 73 [.box 1 0]],.box [.mp 2],.map .str 4 r]):FC Tryz.prog tt 75 [.box [.clos 73 [.box 1 0]],.box [.mp 2],.map .str 4 d] [.lst 53 dl,.box 0 0] K:=by
 refine FC.enterLive (G:=g75) tt_ok mixed ⟨Tryz.func75,by rfl,rfl⟩ rfl rfl rfl ?_
 intro A C L X
 obtain ⟨n_dl,hn_dl,hlen_dl⟩:=lenOf hdl
 cbv
 refine X.loop (fun (y:Nat×D×List (S×Bool))=>⟨[(7,.int .i64 y.1),(6,.int .i64 (A.len dl)),(5,.lst 53 dl),(1,.box 0 0)],[.box [.clos 73 [.box 1 0]],.box [.mp 2],.map .str 4 y.2.1]⟩)
  (fun y=>y.1≤n_dl∧y.2.1=encL encKB y.2.2∧SetIs y.2.2 (ls++pmMods (l.take y.1))) (fun y=>n_dl-y.1) (0,d,m) ⟨Nat.zero_le _,hd,by simpa [pmMods] using hm⟩ ?_ ?_
 ·(cbv;repeat' apply And.intro);all_goals try first|trivial|rfl|(rw [X.a];rfl)
 rintro ⟨i,r,m1⟩ ⟨hi,hr,hs1⟩
 simp only at hi hr hs1
 cbv
 refine ⟨fun h1=> ?_,fun h1=> ?_⟩
 ·have h5:i<l.length:=by obtain rfl:=X.a;simp only [hlen_dl,SD,bNot] at h1;omega
  have k1:=pmTyAt X.a hdl h5
  have hid:A.idx (Int.ofNat i) (A.len dl):=by rw [X.a,hdl];exact leaf_idx h5
  have hin:A.inr .i64 (A.add (Int.ofNat i) 1):=by rw [X.a];exact leaf_inc h5 (by omega)
  cbv
  repeat' (first|apply And.intro|exact fun (_:FF)=>by kernel_rfl|(intro h2;cbv)|apply Or.inl)
  any_goals exact hid
  refine X.call (F73 (hok _ (List.getElem_mem h5)) (hsz _ (List.getElem_mem h5)) k1 hr hs1 fun m2 r2 hr2 hs2=> ?_)
  cbv
  repeat' (first|apply And.intro|exact fun (_:FF)=>by kernel_rfl|(intro h2;cbv)|apply Or.inl)
  any_goals exact hin
  refine ⟨(i+1,r2,m2),⟨?_,hr2,?_⟩,?_,?_⟩
  ·simp only;omega
  ·simp only [pmMods] at hs2 ⊢;rw [flat_take h5,←List.append_assoc];exact hs2
  ·simp only;omega
  (cbv;repeat' apply And.intro);all_goals try first|trivial|rfl|(rw [X.a];rfl)
 have h5:i=n_dl:=by obtain rfl:=X.a;simp only [hlen_dl,SD,bNot] at h1;omega
 subst h5
 rw [hn_dl,List.take_length] at hs1
 cbv
 exact h _ r hr hs1
end Go.VC.T07
end

section
namespace Go.VC.T07
open Go Go.VC Go.Proofs
end Go.VC.T07
end

section
namespace Go.VC
def mentS (x:IF):List S:=(mentL x).filter fun s=>s != x.path
end Go.VC
namespace Go.VC.T07
open Go Go.VC Go.Proofs
theorem F38 {x:IF} {c0:S} {c1 c2 c3 c4:D} {K:PV→List Ob→Prop} (hx:ifIs x c0 c1 c2 c3 c4) (hok:x.ok) (hw:x.wt≤4294967295)
  (h:∀ (l:List S) r,r=encL encS l→SrtS l→(∀ s,s∈l↔s∈mentS x)→K (.lst 9 r) []):
  FC Tryz.prog tt 38 [] [ifPV c0 c1 c2 c3 c4] K:=by
 obtain ⟨x0,hc1,hc2,hc3,hc4⟩:=hx
 have nt:=hok.nt
 have nv:=hok.nv
 have na:=hok.na
 have hml:=mentL_len x
 have wt_t:∀ y∈x.types,y.wt≤4294967295:=fun y hy=>by
  have:=wt_mem (f:=TE.wt) hy;unfold IF.wt at hw;omega
 have wt_v:∀ y∈x.values,y.wt≤4294967295:=fun y hy=>by
  have:=wt_mem (f:=VE.wt) hy;unfold IF.wt at hw;omega
 have wp:∀ (l:List Pm) n,(l.map Pm.wt).sum≤n→∀ p∈l,p.bound.size≤n:=fun l n hn p hp=>by
  have:=wt_mem (f:=Pm.wt) hp;unfold Pm.wt at *;omega
 refine FC.enter (G:=g38) tt_ok mixed ⟨Tryz.func38,by rfl,rfl⟩ rfl rfl rfl ?_
 intro A C L X
 obtain ⟨n_c1,hn_c1,hlen_c1⟩:=lenOf hc1
 obtain ⟨n_c2,hn_c2,hlen_c2⟩:=lenOf hc2
 obtain ⟨n_c3,hn_c3,hlen_c3⟩:=lenOf hc3
 cbv
 refine X.loopP (fun (y:Nat×D×List (S×Bool))=>⟨[(18,.int .i64 y.1),(17,.int .i64 (A.len c1)),(16,.lst 51 c1),(1,.box 0 0),(3,.box 2 0),(4,.box 3 0),(5,.clos 75 [.box 3 0])],[.box [.str c0,.lst 51 c1,.lst 101 c2,.lst 106 c3,.lst 119 c4],.map .str 4 y.2.1,.box [.mp 1],.box [.clos 73 [.box 2 0]]]⟩)
  (fun y=>y.1≤n_c1∧y.2.1=encL encKB y.2.2∧SetIs y.2.2 ((x.types.take y.1).flatMap teMods)) (fun y=>n_c1-y.1) (0,.list [],[]) ⟨Nat.zero_le _,rfl,SetIs.nil⟩ ?_ ?_
 ·refine ⟨[0,1,2,3],rfl,?_⟩
  (cbv;repeat' apply And.intro);all_goals try first|trivial|rfl|(rw [X.a];rfl)
 rintro ⟨i,r,m⟩ ⟨hi,hr,hm⟩
 simp only at hi hr hm
 cbv
 refine ⟨fun h1=> ?_,fun h1=> ?_⟩
 ·have h5:i<x.types.length:=by obtain rfl:=X.a;simp only [hlen_c1,SD,bNot] at h1;omega
  obtain ⟨k0,k1,k2,k3⟩:=teIsAt X.a hc1 h5
  have hyok:=hok.t _ (List.getElem_mem h5)
  have hyw:=wt_t _ (List.getElem_mem h5)
  have hyw':1+(x.types[i].params.map Pm.wt).sum+x.types[i].lower.size+x.types[i].upper.size≤4294967295:=hyw
  have hid:A.idx (Int.ofNat i) (A.len c1):=by rw [X.a,hc1];exact leaf_idx h5
  have hin:A.inr .i64 (A.add (Int.ofNat i) 1):=by rw [X.a];exact leaf_inc h5 (by omega)
  cbv
  repeat' (first|apply And.intro|exact fun (_:FF)=>by kernel_rfl|(intro h2;cbv)|apply Or.inl)
  any_goals exact hid
  refine X.call (F75 hyok.np hyok.p (wp _ _ (by omega)) k1 hr hm fun m1 r1 hr1 hm1=> ?_)
  cbv
  repeat' (first|apply And.intro|exact fun (_:FF)=>by kernel_rfl|(intro h2;cbv)|apply Or.inl)
  refine X.call (F73 hyok.lo (by omega) k2 hr1 hm1 fun m2 r2 hr2 hm2=> ?_)
  cbv
  repeat' (first|apply And.intro|exact fun (_:FF)=>by kernel_rfl|(intro h2;cbv)|apply Or.inl)
  refine X.call (F73 hyok.up (by omega) k3 hr2 hm2 fun m3 r3 hr3 hm3=> ?_)
  cbv
  repeat' (first|apply And.intro|exact fun (_:FF)=>by kernel_rfl|(intro h2;cbv)|apply Or.inl)
  any_goals exact hin
  refine ⟨(i+1,r3,m3),⟨?_,hr3,?_⟩,?_,[0,1,2,3],rfl,?_⟩
  ·simp only;omega
  ·simp only;rw [flat_take h5];simpa only [teMods,List.append_assoc] using hm3
  ·simp only;omega
  (cbv;repeat' apply And.intro);all_goals try first|trivial|rfl|(rw [X.a];rfl)
 have h5:i=n_c1:=by obtain rfl:=X.a;simp only [hlen_c1,SD,bNot] at h1;omega
 subst h5
 rw [hn_c1,List.take_length] at hm
 cbv
 refine X.loopP (fun (y:Nat×D×List (S×Bool))=>⟨[(38,.int .i64 y.1),(37,.int .i64 (A.len c2)),(36,.lst 101 c2),(1,.box 0 0),(3,.box 2 0),(4,.box 3 0),(5,.clos 75 [.box 3 0])],[.box [.str c0,.lst 51 c1,.lst 101 c2,.lst 106 c3,.lst 119 c4],.map .str 4 y.2.1,.box [.mp 1],.box [.clos 73 [.box 2 0]]]⟩)
  (fun y=>y.1≤n_c2∧y.2.1=encL encKB y.2.2∧SetIs y.2.2 (x.types.flatMap teMods++(x.values.take y.1).flatMap veMods)) (fun y=>n_c2-y.1) (0,r,m) ⟨Nat.zero_le _,hr,by simpa using hm⟩ ?_ ?_
 ·refine ⟨[0,1,2,3],rfl,?_⟩
  (cbv;repeat' apply And.intro);all_goals try first|trivial|rfl|(rw [X.a];rfl)
 clear hr hm h1 hi
 rintro ⟨i,r,m⟩ ⟨hi,hr,hm⟩
 simp only at hi hr hm
 cbv
 refine ⟨fun h1=> ?_,fun h1=> ?_⟩
 ·have h5:i<x.values.length:=by obtain rfl:=X.a;simp only [hlen_c2,SD,bNot] at h1;omega
  obtain ⟨k0,k1,k2⟩:=veIsAt X.a hc2 h5
  have hyok:=hok.v _ (List.getElem_mem h5)
  have hyw:=wt_v _ (List.getElem_mem h5)
  have hyw':1+(x.values[i].params.map Pm.wt).sum+x.values[i].ty.size≤4294967295:=hyw
  have hid:A.idx (Int.ofNat i) (A.len c2):=by rw [X.a,hc2];exact leaf_idx h5
  have hin:A.inr .i64 (A.add (Int.ofNat i) 1):=by rw [X.a];exact leaf_inc h5 (by omega)
  cbv
  repeat' (first|apply And.intro|exact fun (_:FF)=>by kernel_rfl|(intro h2;cbv)|apply Or.inl)
  any_goals exact hid
  refine X.call (F75 hyok.np hyok.p (wp _ _ (by omega)) k1 hr hm fun m1 r1 hr1 hm1=> ?_)
  cbv
  repeat' (first|apply And.intro|exact fun (_:FF)=>by kernel_rfl|(intro h2;cbv)|apply Or.inl)
  refine X.call (F73 hyok.ty (by omega) k2 hr1 hm1 fun m2 r2 hr2 hm2=> ?_)
  cbv
  repeat' (first|apply And.intro|exact fun (_:FF)=>by kernel_rfl|(intro h2;cbv)|apply Or.inl)
  any_goals exact hin
  refine ⟨(i+1,r2,m2),⟨?_,hr2,?_⟩,?_,[0,1,2,3],rfl,?_⟩
  ·simp only;omega
  ·simp only;rw [flat_take h5];simpa only [veMods,List.append_assoc] using hm2
  ·simp only;omega
  (cbv;repeat' apply And.intro);all_goals try first|trivial|rfl|(rw [X.a];rfl)
 have h5:i=n_c2:=by obtain rfl:=X.a;simp only [hlen_c2,SD,bNot] at h1;omega
 subst h5
 rw [hn_c2,List.take_length] at hm
 cbv
 refine X.loopP (fun (y:Nat×D×List (S×Bool))=>⟨[(54,.int .i64 y.1),(53,.int .i64 (A.len c3)),(52,.lst 106 c3),(1,.box 0 0),(3,.box 2 0)],[.box [.str c0,.lst 51 c1,.lst 101 c2,.lst 106 c3,.lst 119 c4],.map .str 4 y.2.1,.box [.mp 1]]⟩)
  (fun y=>y.1≤n_c3∧y.2.1=encL encKB y.2.2∧SetIs y.2.2 (x.types.flatMap teMods++x.values.flatMap veMods++(x.aliases.take y.1).map (·.module))) (fun y=>n_c3-y.1) (0,r,m) ⟨Nat.zero_le _,hr,by simpa using hm⟩ ?_ ?_
 ·refine ⟨[0,1,2],rfl,?_⟩
  (cbv;repeat' apply And.intro);all_goals try first|trivial|rfl|(rw [X.a];rfl)
 clear hr hm h1 hi
 rintro ⟨i,r,m⟩ ⟨hi,hr,hm⟩
 simp only at hi hr hm
 cbv
 refine ⟨fun h1=> ?_,fun h1=> ?_⟩
 ·have h5:i<x.aliases.length:=by obtain rfl:=X.a;simp only [hlen_c3,SD,bNot] at h1;omega
  have k1:=(aeAt X.a hc3 h5).2.1
  have hid:A.idx (Int.ofNat i) (A.len c3):=by rw [X.a,hc3];exact leaf_idx h5
  have hin:A.inr .i64 (A.add (Int.ofNat i) 1):=by rw [X.a];exact leaf_inc h5 (by omega)
  have q1:A.mset r (.str (A.asStr (A.cell c3 (Int.ofNat i) 1))) [.bool true]=encL encKB (addK m x.aliases[i].module):=by
   rw [k1,X.a,hr,Std_addK]
  cbv
  repeat' (first|apply And.intro|exact fun (_:FF)=>by kernel_rfl|(intro h2;cbv)|apply Or.inl)
  any_goals exact hid
  any_goals exact hin
  refine ⟨(i+1,_,addK m x.aliases[i].module),⟨?_,q1,?_⟩,?_,[0,1,2],rfl,?_⟩
  ·simp only;omega
  ·simp only;rw [map_take h5,←List.append_assoc];exact hm.add [x.aliases[i].module]
  ·simp only;omega
  (cbv;repeat' apply And.intro);all_goals try first|trivial|rfl|(rw [X.a];rfl)
 have h5:i=n_c3:=by obtain rfl:=X.a;simp only [hlen_c3,SD,bNot] at h1;omega
 subst h5
 rw [hn_c3,List.take_length] at hm
 have hd:=hm.del c0
 have q2:A.mdel r (.str c0)=encL encKB (delK m c0):=by rw [X.a,hr,Std_delK]
 cbv
 refine X.call (F77 ?_)
 cbv
 refine X.call (F76 q2 ?_ hd.1 fun l rl hrl hsl hml=> ?_)
 ·have a:=hd.len
  have b:((mentL x).filter fun s=>s != c0).length≤(mentL x).length:=List.length_filter_le _ _
  exact Nat.lt_of_le_of_lt (Nat.le_trans a (Nat.le_trans b (Nat.le_trans hml hw))) (by omega)
 cbv
 refine h l rl hrl hsl fun s=> ?_
 rw [hml,hd.2,mentS,←x0];rfl
end Go.VC.T07
end

section
namespace Go.VC
structure KT (m:List (S×Bool)) (L:List S):Prop where
 nd:(m.map (·.1)).Nodup
 mem:∀ s,s∈m.map (·.1)↔s∈L
 tr:∀ x∈m,x.2=true
theorem hasK {k:S} {x:S×Bool}:hasKey (.str k) (encKB x)=(k==x.1):=rfl
theorem Std_getK {m:List (S×Bool)} {L:List S} (h:KT m L) (k:S):Std.asBool (Std.mget (encL encKB m) (.str k) 0)=decide (k∈L):=by
 have e:Std.asBool (Std.mget (encL encKB m) (.str k) 0)=decide (k∈m.map (·.1)):=by
  have ht:=h.tr
  clear h
  show Std.asBool ((((m.map encKB).find? (hasKey (.str k))).getD []).getD 1 .nil)=_
  induction m with
  |nil=>rfl
  |cons x m ih=>
   rw [List.map_cons,List.find?_cons,hasK]
   by_cases hk:k=x.1
   ·have h2:=ht x (by simp)
    rw [beq_iff_eq.2 hk]
    have:decide (k∈(x::m).map (·.1))=true:=by simp [hk]
    rw [this]
    show x.2=true
    exact h2
   ·rw [beq_eq_false_iff_ne.2 hk]
    have:=ih (fun y hy=>ht y (by simp [hy]))
    rw [this]
    simp [hk]
 rw [e]
 exact decide_eq_decide.2 (h.mem k)
def delB (m:List (S×Bool)) (k:S):List (S×Bool):=m.eraseP fun x=>k==x.1
theorem delB_mem {m:List (S×Bool)} {k s:S} (hn:(m.map (·.1)).Nodup):s∈(delB m k).map (·.1)↔s∈m.map (·.1)∧s≠k:=by
 unfold delB
 induction m with
 |nil=>simp
 |cons x m ih=>
  rw [List.map_cons,List.nodup_cons] at hn
  rw [List.eraseP_cons]
  by_cases hk:k=x.1
  ·rw [beq_iff_eq.2 hk,cond_true,List.map_cons,List.mem_cons]
   constructor
   ·intro h;exact ⟨.inr h,fun e=>hn.1 (by rw [← hk,←e];exact h)⟩
   ·rintro ⟨h|h,h2⟩
    ·exact absurd (h.trans hk.symm) h2
    ·exact h
  ·rw [beq_eq_false_iff_ne.2 hk,cond_false,List.map_cons,List.mem_cons,ih hn.2,List.map_cons,List.mem_cons]
   constructor
   ·rintro (h|⟨h,h2⟩)
    ·exact ⟨.inl h,fun e=>hk (e.symm.trans h)⟩
    ·exact ⟨.inr h,h2⟩
   ·rintro ⟨h|h,h2⟩
    ·exact .inl h
    ·exact .inr ⟨h,h2⟩
theorem KT.del {m:List (S×Bool)} {L:List S} (h:KT m L) (k:S):KT (delB m k) (L.filter fun s=>s != k) where
 nd:=by
  have:((delB m k).map (·.1)).Sublist (m.map (·.1)):=(List.eraseP_sublist).map _
  exact this.nodup h.nd
 mem s:=by rw [delB_mem h.nd,h.mem];simp
 tr x hx:=h.tr x (List.mem_of_mem_eraseP hx)
theorem KT.add {m:List (S×Bool)} {L:List S} (h:KT m L) (k:S):KT (addK m k) (L++[k]) where
 nd:=addK_nodup h.nd
 mem s:=by rw [addK_keys,h.mem];simp;exact Or.comm
 tr x hx:=by
  have ht:=h.tr
  clear h
  induction m with
  |nil=>simp [addK] at hx;subst hx;rfl
  |cons y m ih=>
   simp only [addK] at hx
   split at hx
   ·rcases List.mem_cons.1 hx with rfl|hx
    ·rfl
    ·exact ht x (by simp [hx])
   ·rcases List.mem_cons.1 hx with rfl|hx
    ·exact ht _ (by simp)
    ·exact ih hx (fun y hy=>ht y (by simp [hy]))
theorem KT.of {m:List (S×Bool)} {L L':List S} (h:KT m L) (e:∀ s,s∈L↔s∈L'):KT m L':=⟨h.nd,fun s=>by rw [h.mem,e],h.tr⟩
theorem KT.nil:KT [] []:=⟨by simp,by simp,by simp⟩
end Go.VC
end

section
namespace Go.VC
theorem upd_one (o:BB):upd 1 o (false,false)=o:=by
 unfold upd atS;simp
end Go.VC
namespace Go.VC.T07
open Go Go.VC Go.Proofs
def g22b:Cfg:={tt:=tt,n:=17,live:=[48],keep:=[48],sch:=[(5,[0,1,2,3])],hard:=[]}
theorem F22 {env:List IF} {de:D} {x:S} (he:de=encL encIF env) (hok:envOk env) {t:Ty} (hle:Ty.le 4294967295 t) {c0:Int} {c1 c2:S} {c3 c4:D} {K:PV→List Ob→Prop} (ht:tyIs t c0 c1 c2 c3 c4)
  (h:∀ a b,(a,b)=occ env x t→K (.tup [.bool a,.bool b]) []):FC Tryz.prog tt 22 [] [.lst 40 de,tyPV c0 c1 c2 c3 c4,.str x] K:=by
 refine FC.enter (G:=g22b) tt_ok mixed ⟨Tryz.func22,by rfl,rfl⟩ rfl rfl rfl ?_
 intro A C L X
 cbv
 refine X.call (F48 (p:=false) (n:=false) he hok t hle (by decide) (.inr rfl) (.inr rfl) ht fun a b P' N' hP hN hu=> ?_)
 rw [upd_one] at hu
 rcases hP with rfl|rfl<;>rcases hN with rfl|rfl<;>cbv
 repeat' (first|apply And.intro|exact fun (_:FF)=>by kernel_rfl|(intro h2;cbv)|apply Or.inl)
 all_goals exact h a b hu
theorem F18 {env:List IF} {de dp:D} (he:de=encL encIF env) (hok:envOk env) {ps:List Pm} (hp:dp=encL encPm ps) (hpl:ps.length≤4294967295) {t:Ty} (hle:Ty.le 4294967295 t) {c0:Int} {c1 c2:S} {c3 c4:D} {K:PV→List Ob→Prop} (ht:tyIs t c0 c1 c2 c3 c4)
  (h:∀ b,b=respF env t [] ps→K (.bool b) []):FC Tryz.prog tt 18 [] [.lst 40 de,.lst 53 dp,tyPV c0 c1 c2 c3 c4] K:=by
 refine FC.enter (G:=g18) tt_ok mixed ⟨Tryz.func18,by rfl,rfl⟩ rfl rfl rfl ?_
 intro A C L X
 have heq:=eqA X.a
 obtain ⟨n_dp,hn_dp,hlen_dp⟩:=lenOf hp
 cbv
 refine X.loopP (fun (y:Nat×D)=>⟨[(15,.int .i64 y.1),(14,.int .i64 (A.len dp)),(13,.lst 53 dp),(7,.mp 1),(0,.lst 40 de),(5,.box 0 0)],[.box [.int .i64 c0,.str c1,.str c2,.lst 28 c3,.lst 65 c4],.map .str 4 y.2]⟩)
  (fun y=>y.1≤n_dp∧∃ seen m,y.2=encL encKB m∧KT m seen∧respF env t [] ps=respF env t seen (ps.drop y.1)) (fun y=>n_dp-y.1) (0,.list []) ⟨Nat.zero_le _,[],[],rfl,KT.nil,rfl⟩ ?_ ?_
 ·refine ⟨[0,1],rfl,?_⟩
  (cbv;repeat' apply And.intro);all_goals try first|trivial|rfl|(rw [X.a];rfl)
 rintro ⟨i,dm⟩ ⟨hi,seen,m,hdm,hm,hr⟩
 simp only at hi hdm hr
 cbv
 refine ⟨fun h1=> ?_,fun h1=> ?_⟩
 ·have h5:i<ps.length:=by obtain rfl:=X.a;simp only [hlen_dp,SD,bNot] at h1;omega
  obtain ⟨k1,k2⟩:=pmAt X.a hp h5
  have hid:A.idx (Int.ofNat i) (A.len dp):=by rw [X.a,hp];exact leaf_idx h5
  have hin:A.inr .i64 (A.add (Int.ofNat i) 1):=by rw [X.a];exact leaf_inc h5 (by omega)
  have hget:A.asBool (A.mget dm (.str (A.asStr (A.cell dp (Int.ofNat i) 0))) 0)=decide (ps[i].name∈seen):=by rw [k1,X.a,hdm];exact Std_getK hm _
  have hset:A.mset dm (.str (A.asStr (A.cell dp (Int.ofNat i) 0))) [.bool true]=encL encKB (addK m ps[i].name):=by rw [k1,X.a,hdm];exact Std_addK
  rw [List.drop_eq_getElem_cons h5,respF] at hr
  have hv0:A.eq (A.asInt (A.cell dp (Int.ofNat i) 1)) 0=(ps[i].var==0):=by rw [heq,k2]
  have hv1:A.eq (A.asInt (A.cell dp (Int.ofNat i) 1)) 1=(ps[i].var==1):=by rw [heq,k2]
  have hskip:decide (ps[i].name∈seen)=true→respF env t [] ps=respF env t seen (ps.drop (i+1)):=by
   intro e;rw [hr,if_pos (by simpa using e)]
  have hgo:decide (ps[i].name∈seen)=false→respF env t [] ps=if (ps[i].var=0∧(occ env ps[i].name t).2=true)∨(ps[i].var=1∧(occ env ps[i].name t).1=true) then false else respF env t (seen++[ps[i].name]) (ps.drop (i+1)):=by
   intro e;rw [hr,if_neg (by simpa using e)]
  clear h1
  cbv
  repeat' (first|apply And.intro|exact fun (_:FF)=>by kernel_rfl|(intro h2;cbv)|apply Or.inl|(refine X.call (F22 he hok hle ht fun a b hab=> ?_);cbv))
  any_goals first|exact hid|exact hin
  ·have g1:A.asBool (A.mget dm (.str (A.asStr (A.cell dp (Int.ofNat i) 0))) 0)=true:=by assumption
   refine ⟨(i+1,_),⟨by simp only;omega,seen,m,hdm,hm,hskip (hget.symm.trans g1)⟩,by simp only;omega,[0,1],rfl,?_⟩
   (cbv;repeat' apply And.intro);all_goals try first|trivial|rfl|(rw [X.a];rfl)
  all_goals (
   have g1:A.asBool (A.mget dm (.str (A.asStr (A.cell dp (Int.ofNat i) 0))) 0)=false:=by assumption
   have hgo:=hgo (hget.symm.trans g1)
   have hab:(a,b)=occ env (A.asStr (A.cell dp (Int.ofNat i) 0)) t:=hab
   rw [k1] at hab
   rw [← hab] at hgo
   simp only at hgo
   simp only [bNot,hv0,hv1] at *)
  all_goals first
   |(refine h _ ?_;rw [hgo];clear hgo h hskip hget hset;simp_all;done)
   |(refine ⟨(i+1,_),⟨by simp only;omega,seen++[ps[i].name],_,hset,hm.add _,?_⟩,by simp only;omega,[0,1],rfl,?_⟩
     ·rw [hgo];clear hgo h hskip hget hset;simp_all;done
     (cbv;repeat' apply And.intro);all_goals try first|trivial|rfl|(rw [X.a];rfl))
 ·have h5:i=n_dp:=by obtain rfl:=X.a;simp only [hlen_dp,SD,bNot] at h1;omega
  cbv
  rw [h5,hn_dp,List.drop_length] at hr
  exact h _ hr.symm
end Go.VC.T07
end

section
namespace Go.VC
open Go
def encKV {α:Type} (f:α→List D) (x:S×α):List D:=.str x.1::f x.2
def putV {α:Type} (k:S) (v:α):List (S×α)→List (S×α)
 |[]=>[(k,v)]
 |x::r=>if k=x.1 then (k,v)::r else x::putV k v r
theorem hasKV {α:Type} {f:α→List D} {k:S} {x:S×α}:hasKey (.str k) (encKV f x)=(k==x.1):=rfl
theorem Std_putV {α:Type} {f:α→List D} {m:List (S×α)} {k:S} {v:α}:Std.mset (encL (encKV f) m) (.str k) (f v)=encL (encKV f) (putV k v m):=by
 show D.list (setKey (.str k) (f v) (m.map (encKV f)))=D.list ((putV k v m).map (encKV f))
 congr 1
 induction m with
 |nil=>rfl
 |cons x m ih=>
  simp only [List.map_cons,setKey,putV]
  rw [hasKV]
  by_cases h:k=x.1
  ·rw [if_pos (by simp [h]),if_pos h];rfl
  ·rw [if_neg (by simp [h]),if_neg h,List.map_cons,←ih]
def lookV {α:Type} (m:List (S×α)) (k:S):Option α:=(m.find? fun x=>k==x.1).map (·.2)
theorem find_map_enc {α:Type} {f:α→List D} (m:List (S×α)) (k:S):(m.map (encKV f)).find? (hasKey (.str k))=(m.find? fun x=>k==x.1).map (encKV f):=by
 induction m with
 |nil=>rfl
 |cons x m ih=>
  rw [List.map_cons,List.find?_cons,List.find?_cons,hasKV]
  cases k==x.1 with
  |true=>rfl
  |false=>exact ih
theorem Std_hasV {α:Type} {f:α→List D} {m:List (S×α)} {k:S}:Std.mhas (encL (encKV f) m) (.str k)=(lookV m k).isSome:=by
 show (m.map (encKV f)).any (hasKey (.str k))=_
 rw [lookV,Option.isSome_map]
 induction m with
 |nil=>rfl
 |cons x m ih=>
  rw [List.map_cons,List.any_cons,List.find?_cons,hasKV]
  cases k==x.1 with
  |true=>rfl
  |false=>rw [Bool.false_or];exact ih
theorem Std_getV {α:Type} {f:α→List D} {m:List (S×α)} {k:S} {v:α} (h:lookV m k=some v) (j:Nat):Std.mget (encL (encKV f) m) (.str k) j=(f v).getD j .nil:=by
 show (((m.map (encKV f)).find? (hasKey (.str k))).getD []).getD (j+1) .nil=_
 rw [find_map_enc]
 unfold lookV at h
 cases hx:m.find? fun x=>k==x.1 with
 |none=>rw [hx] at h;cases h
 |some x=>rw [hx] at h;cases h;rfl
theorem Std_getN {α:Type} {f:α→List D} {m:List (S×α)} {k:S} (h:lookV m k=none) (j:Nat):Std.mget (encL (encKV f) m) (.str k) j= .nil:=by
 show (((m.map (encKV f)).find? (hasKey (.str k))).getD []).getD (j+1) .nil=_
 rw [find_map_enc]
 unfold lookV at h
 cases hx:m.find? fun x=>k==x.1 with
 |none=>rfl
 |some x=>rw [hx] at h;cases h
theorem look_put {α:Type} {m:List (S×α)} {k s:S} {v:α}:lookV (putV k v m) s=if s=k then some v else lookV m s:=by
 unfold lookV
 induction m with
 |nil=>
  by_cases h:s=k
  ·subst h;simp [putV]
  ·simp [putV,h]
 |cons x m ih=>
  simp only [putV]
  by_cases hk:k=x.1
  ·rw [if_pos hk]
   by_cases h:s=k
   ·subst h;simp
   ·rw [if_neg h]
    have:(s==x.1)=false:=by rw [← hk];simpa using h
    rw [List.find?_cons,List.find?_cons,this]
    have h2:(s==k)=false:=by simpa using h
    simp [h2]
  ·rw [if_neg hk,List.find?_cons,List.find?_cons]
   cases hs:s==x.1 with
   |true=>
    have:s=x.1:=by simpa using hs
    have hne:s≠k:=fun e=>hk (e.symm.trans this)
    simp [hne]
   |false=>exact ih
theorem put_keys {α:Type} {m:List (S×α)} {k s:S} {v:α}:s∈(putV k v m).map (·.1)↔s=k∨s∈m.map (·.1):=by
 induction m with
 |nil=>simp [putV]
 |cons x m ih=>
  simp only [putV]
  split
  ·rename_i h;simp only [List.map_cons,List.mem_cons,←h];constructor
   ·rintro (h1|h1);exact .inl h1;exact .inr (.inr h1)
   ·rintro (h1|h1|h1);exact .inl h1;exact .inl h1;exact .inr h1
  ·simp only [List.map_cons,List.mem_cons,ih];constructor
   ·rintro (h1|h1|h1);exact .inr (.inl h1);exact .inl h1;exact .inr (.inr h1)
   ·rintro (h1|h1|h1);exact .inr (.inl h1);exact .inl h1;exact .inr (.inr h1)
theorem put_nodup {α:Type} {m:List (S×α)} {k:S} {v:α} (h:(m.map (·.1)).Nodup):((putV k v m).map (·.1)).Nodup:=by
 induction m with
 |nil=>simp [putV]
 |cons x m ih=>
  rw [List.map_cons,List.nodup_cons] at h
  simp only [putV]
  split
  ·rename_i hk;rw [List.map_cons,List.nodup_cons];exact ⟨by simp only [hk];exact h.1,h.2⟩
  ·rename_i hk
   rw [List.map_cons,List.nodup_cons,put_keys]
   exact ⟨fun e=>by rcases e with e|e;exact hk e.symm;exact h.1 e,ih h.2⟩
theorem put_len {α:Type} {m:List (S×α)} {k:S} {v:α}:(putV k v m).length≤m.length+1:=by
 induction m with
 |nil=>simp [putV]
 |cons x m ih=>simp only [putV];split<;>simp;omega
theorem look_mem {α:Type} {m:List (S×α)} {k:S}:k∈m.map (·.1)↔(lookV m k).isSome=true:=by
 unfold lookV
 rw [Option.isSome_map]
 induction m with
 |nil=>simp
 |cons x m ih=>
  rw [List.map_cons,List.mem_cons,List.find?_cons]
  by_cases h:k=x.1
  ·simp [h]
  ·have:(k==x.1)=false:=by simpa using h
   rw [this]
   simp only [h,false_or];exact ih
def tyF (i:IF) (n:S):Option TE:=i.types.find? fun x=>x.name==n
structure TM (m:List (S×TE)) (i:IF):Prop where
 nd:(m.map (·.1)).Nodup
 get:∀ n,lookV m n=tyF i n
def leadsR (i:IF) (m n:S):Option S:=match endO [i] m n with
 | .typ _ n' _=>if (tyF i n').isSome then some n' else none
 | .val _ n' _=>if (tyF i n').isSome then some n' else none
 |_=>none
theorem leads_of {i:IF} {p n r0 r1:S} {r2:Int} (hr:(r0,r1,r2)=(match endO [i] p n with| .nf=>([],[],6)| .loop=>([],[],14)| .typ m' n' _=>(m',n',0)| .val m' n' _=>(m',n',0):S×S×Int)):
  (leadsR i p n).isSome=(r2==0&&(tyF i r1).isSome)∧((leadsR i p n).isSome=true→leadsR i p n=some r1):=by
 unfold leadsR
 generalize endO [i] p n=e at hr
 cases e with
 |typ m' n' x=>
  have hr:(r0,r1,r2)=(m',n',0):=hr
  cases hr
  simp only
  cases ht:tyF i r1<;>simp [ht]
 |val m' n' x=>
  have hr:(r0,r1,r2)=(m',n',0):=hr
  cases hr
  simp only
  cases ht:tyF i r1<;>simp [ht]
 |nf=>
  have hr:(r0,r1,r2)=([],[],6):=hr
  cases hr
  simp
 |loop=>
  have hr:(r0,r1,r2)=([],[],14):=hr
  cases hr
  simp
end Go.VC
namespace Go.VC.T07
open Go Go.VC Go.Proofs
theorem FC.g3 {P:Program} {tt:TypeId→Option TI} {f:FuncId} {objs:List Ob} {a b c:PV} {rest:List PV} {K:PV→List Ob→Prop} (h:FC P tt f objs (.agg [a,b,.undef]::rest) K):FC P tt f objs (.agg [a,b,c]::rest) K:=by
 intro E Pp w vals hw hv
 refine h E Pp w vals hw ?_
 cases hv with
 |cons v _ vs _ h1 h2=>
  refine .cons _ _ _ _ ?_ h2
  cases h1 with
  |agg us _ hl=>
   cases hl with|cons _ _ _ _ ha hl=>cases hl with|cons _ _ _ _ hb hl=>cases hl with|cons _ _ _ _ hc hl=>
   cases hl
   exact .agg _ _ (.cons _ _ _ _ ha (.cons _ _ _ _ hb (.cons _ _ _ _ (.undef _) .nil)))
theorem F174 {i:IF} (hi:i.ok) {m:List (S×TE)} (hm:TM m i) {d dT:D} (hd:d=encL encIF [i]) (hT:dT=encL (encKV encTE) m) {p n:S} {K:PV→List Ob→Prop}
  (h:∀ e b,b=(leadsR i p n).isSome→(b=true→leadsR i p n=some e)→K (.tup [.str e,.bool b]) []):
  FC Tryz.prog tt 174 [] [.agg [.lst 40 d,.dmp 51 dT,.undef],.str p,.str n] K:=by
 have hok:envOk [i]:=⟨by simp,by simpa using hi⟩
 refine FC.enter (G:=g174) tt_ok mixed ⟨Tryz.func174,by rfl,rfl⟩ rfl rfl rfl ?_
 intro A C L X
 have heq:=eqA X.a
 have hhas:∀ k:S,A.mhas dT (.str k)=(tyF i k).isSome:=fun k=>by rw [X.a,hT,Std_hasV,hm.get]
 cbv
 refine X.call (F215 hd hok fun r0 r1 r2 hr=> ?_)
 obtain ⟨hl1,hl2⟩:=leads_of hr
 have key:∀ b,b=(r2==0&&(tyF i r1).isSome)→K (.tup [.str r1,.bool b]) []:=fun b hb=>h _ _ (hb.trans hl1.symm) (fun hb1=>hl2 (by rw [hl1,←hb,hb1]))
 clear hl1 hl2 hr h
 cbv
 repeat' (first|apply And.intro|exact fun (_:FF)=>by kernel_rfl|(intro h2;cbv)|apply Or.inl)
 all_goals (refine key _ ?_;have e:=hhas r1;clear hhas key;simp only [bNot,heq] at *;simp_all;done)
end Go.VC.T07
end

section
namespace Go.VC
def memR (i:IF) (g:List S) (t:Ty):Bool:=t.k==10&&(match leadsR i t.m t.n with|some e=>g.contains e|none=>false)
def usesOf (i:IF) (n:S):List U:=((tyF i n).getD TE.zero).lower.uses++((tyF i n).getD TE.zero).upper.uses
def dirP (i:IF) (n e:S):Prop:=∃ u∈usesOf i n,leadsR i u.1 u.2=some e
theorem zeroT_uses:TE.zero.lower.uses++TE.zero.upper.uses=[]:=by
 simp [TE.zero,Ty.zero,Ty.uses,Ty.usess,Ty.usesf]
end Go.VC
namespace Go.VC.T07
open Go Go.VC Go.Proofs
theorem F198 {i:IF} (hi:i.ok) {m:List (S×TE)} (hm:TM m i) {d dT dg:D} (hd:d=encL encIF [i]) (hT:dT=encL (encKV encTE) m) {g:List S} (hg:dg=encL encS g) (hgl:g.length≤4294967295)
  {t:Ty} {c0:Int} {c1 c2:S} {c3 c4:D} {K:PV→List Ob→Prop} (ht:tyIs t c0 c1 c2 c3 c4) (h:∀ b,b=memR i g t→K (.bool b) []):
  FC Tryz.prog tt 198 [] [.agg [.lst 40 d,.dmp 51 dT,.undef],tyPV c0 c1 c2 c3 c4,.lst 9 dg] K:=by
 obtain ⟨t0,t1,t2,hc3,hc4⟩:=ht
 unfold memR at h
 rw [← t0,←t1,←t2] at h
 refine FC.enter (G:=g198) tt_ok mixed ⟨Tryz.func198,by rfl,rfl⟩ rfl rfl rfl ?_
 intro A C L X
 have heq:=eqA X.a
 cbv
 refine X.call (F174 hi hm hd hT fun e b hb he=> ?_)
 have hb1:b=false→leadsR i c1 c2=none:=fun h=>by rw [h] at hb;simpa using hb.symm
 cbv
 repeat' (first|apply And.intro|exact fun (_:FF)=>by kernel_rfl|(intro h2;cbv)|apply Or.inl|(refine X.call (F21 hg hgl fun b2 hb2=> ?_);cbv))
 ·have e1:A.eq c0 10=true:=by assumption
  have e2:b=true:=by assumption
  rw [heq] at e1
  refine h _ ?_
  rw [e1,he e2,hb2];rfl
 ·have e1:A.eq c0 10=true:=by assumption
  have e2:b=false:=by assumption
  rw [heq] at e1
  refine h _ ?_
  rw [hb1 e2,Bool.and_false]
 ·have e1:A.eq c0 10=false:=by assumption
  rw [heq] at e1
  refine h _ ?_
  rw [e1,Bool.false_and]
end Go.VC.T07
end

section
namespace Go.VC
theorem teMap {A:Alg} (ha:A=Std) {dT:D} {m:List (S×TE)} (hT:dT=encL (encKV encTE) m) {k:S} {x:TE} (h:lookV m k=some x):
  teIs x (A.asStr (A.mget dT (.str k) 0)) (A.mget dT (.str k) 1) (A.asInt (A.mget dT (.str k) 2)) (A.asStr (A.mget dT (.str k) 3)) (A.asStr (A.mget dT (.str k) 4)) (A.mget dT (.str k) 5) (A.mget dT (.str k) 6) (A.asInt (A.mget dT (.str k) 7)) (A.asStr (A.mget dT (.str k) 8)) (A.asStr (A.mget dT (.str k) 9)) (A.mget dT (.str k) 10) (A.mget dT (.str k) 11):=by
 subst ha hT
 simp only [Std_getV h,encTE_eq]
 exact ⟨rfl,rfl,⟨rfl,rfl,rfl,rfl,rfl⟩,rfl,rfl,rfl,rfl,rfl⟩
theorem lit2Ty {A:Alg} (ha:A=Std) {t u:Ty} {c2:Int} {c3 c4:S} {c5 c6:D} {c7:Int} {c8 c9:S} {c10 c11:D} (ht:tyIs t c2 c3 c4 c5 c6) (hu:tyIs u c7 c8 c9 c10 c11):
  A.lit [[.int c2,.str c3,.str c4,c5,c6],[.int c7,.str c8,.str c9,c10,c11]]=encL encTy [t,u]:=by
 subst ha
 obtain ⟨rfl,rfl,rfl,rfl,rfl⟩:=ht
 obtain ⟨rfl,rfl,rfl,rfl,rfl⟩:=hu
 rw [show encL encTy [t,u]=D.list [encTy t,encTy u] from rfl,encTy_eq,encTy_eq];rfl
def ledTo (i:IF) (us:List U) (l:List S):Prop:=(∀ e,e∈l↔∃ u∈us,leadsR i u.1 u.2=some e)∧l.length≤us.length
theorem ledTo.nil (i:IF):ledTo i [] []:=⟨by simp,by simp⟩
theorem ledTo.app {i:IF} {us vs ws:List U} {l k:List S} (h:ledTo i us l) (hk:ledTo i vs k) (hv:∀ u,u∈vs↔u∈ws) (hl:vs.length≤ws.length):ledTo i (us++ws) (l++k):=by
 refine ⟨fun e=> ?_,?_⟩
 ·rw [List.mem_append,h.1,hk.1]
  constructor
  ·rintro (⟨u,hu,he⟩|⟨u,hu,he⟩)
   ·exact ⟨u,List.mem_append_left _ hu,he⟩
   ·exact ⟨u,List.mem_append_right _ ((hv u).1 hu),he⟩
  ·rintro ⟨u,hu,he⟩
   rcases List.mem_append.1 hu with hu|hu
   ·exact .inl ⟨u,hu,he⟩
   ·exact .inr ⟨u,(hv u).2 hu,he⟩
 ·have:=h.2;have:=hk.2;simp only [List.length_append];omega
theorem ledTo.step {i:IF} {us:List U} {l:List S} {u:U} (h:ledTo i us l):(∀ e,leadsR i u.1 u.2=some e→ledTo i (us++[u]) (l++[e]))∧(leadsR i u.1 u.2=none→ledTo i (us++[u]) l):=by
 refine ⟨fun e he=>⟨fun x=> ?_,?_⟩,fun hn=>⟨fun x=> ?_,?_⟩⟩
 ·rw [List.mem_append,h.1,List.mem_singleton]
  constructor
  ·rintro (⟨v,hv,hx⟩|rfl)
   ·exact ⟨v,List.mem_append_left _ hv,hx⟩
   ·exact ⟨u,by simp,he⟩
  ·rintro ⟨v,hv,hx⟩
   rcases List.mem_append.1 hv with hv|hv
   ·exact .inl ⟨v,hv,hx⟩
   ·rw [List.mem_singleton] at hv;subst hv;rw [he] at hx;cases hx;exact .inr rfl
 ·have:=h.2;simp only [List.length_append,List.length_singleton];omega
 ·rw [h.1]
  constructor
  ·rintro ⟨v,hv,hx⟩;exact ⟨v,List.mem_append_left _ hv,hx⟩
  ·rintro ⟨v,hv,hx⟩
   rcases List.mem_append.1 hv with hv|hv
   ·exact ⟨v,hv,hx⟩
   ·rw [List.mem_singleton] at hv;subst hv;rw [hn] at hx;cases hx
 ·have:=h.2;simp only [List.length_append,List.length_singleton];omega
end Go.VC
namespace Go.VC.T07
open Go Go.VC Go.Proofs
def g130a:Cfg:={tt:=tt,n:=51,own:=[5]}
theorem F130 {i:IF} (hi:i.ok) (hsz:∀ x∈i.types,x.lower.size≤1048576∧x.upper.size≤1048576) {m:List (S×TE)} (hm:TM m i) {d dT:D} (hd:d=encL encIF [i]) (hT:dT=encL (encKV encTE) m) {n:S} {K:PV→List Ob→Prop}
  (h:∀ l r,r=encL encS l→ledTo i (usesOf i n) l→K (.row 9 0) [.row 9 r true]):
  FC Tryz.prog tt 130 [] [.agg [.lst 40 d,.dmp 51 dT,.undef],.str n] K:=by
 refine FC.enterOwn (G:=g130a) tt_ok mixed ⟨Tryz.func130,by rfl,rfl⟩ rfl rfl rfl ?_
 intro A C L X
 have hhas:A.mhas dT (.str n)=(tyF i n).isSome:=by rw [X.a,hT,Std_hasV,hm.get]
 have hget:∀ x,tyF i n=some x→lookV m n=some x:=fun x hx=>by rw [hm.get,hx]
 cbv
 refine ⟨fun h1=> ?_,fun h1=> ?_⟩
 ·rw [hhas] at h1
  obtain ⟨x,hx⟩:=Option.isSome_iff_exists.1 h1
  have kx:=teMap X.a hT (hget x hx)
  have klo:=kx.2.2.1
  have kup:=kx.2.2.2
  have hxm:x∈i.types:=List.mem_of_find?_eq_some hx
  have hlo:Ty.le 4294967295 x.lower∧x.lower.size≤1048576:=⟨(hi.t x hxm).lo,(hsz x hxm).1⟩
  have hup:Ty.le 4294967295 x.upper∧x.upper.size≤1048576:=⟨(hi.t x hxm).up,(hsz x hxm).2⟩
  have huse:usesOf i n=[x.lower,x.upper].flatMap Ty.uses:=by rw [usesOf,hx];simp
  clear h1 hhas hget
  obtain ⟨dl,hdl0⟩:∃ dl,dl=A.lit [[.int (A.asInt (A.mget dT (.str n) 2)),.str (A.asStr (A.mget dT (.str n) 3)),.str (A.asStr (A.mget dT (.str n) 4)),A.mget dT (.str n) 5,A.mget dT (.str n) 6],[.int (A.asInt (A.mget dT (.str n) 7)),.str (A.asStr (A.mget dT (.str n) 8)),.str (A.asStr (A.mget dT (.str n) 9)),A.mget dT (.str n) 10,A.mget dT (.str n) 11]]:=⟨_,rfl⟩
  have hdl:dl=encL encTy [x.lower,x.upper]:=hdl0.trans (lit2Ty X.a klo kup)
  obtain ⟨ts,hts⟩:∃ ts,ts=[x.lower,x.upper]:=⟨_,rfl⟩
  have htl:ts.length=2:=by rw [hts];rfl
  have htle:∀ t∈ts,Ty.le 4294967295 t∧t.size≤1048576:=by rw [hts];intro t ht;simp at ht;rcases ht with rfl|rfl;exact hlo;exact hup
  rw [← hts] at hdl huse
  obtain ⟨n_dl,hn_dl,hlen_dl⟩:=lenOf hdl
  cbv
  refine X.loopP (fun (y:Nat×D)=>⟨[(23,.int .i64 y.1),(22,.int .i64 (A.len dl)),(21,.lst 28 dl),(5,.row 9 1),(2,.box 0 0)],[.box [.lst 40 d,.dmp 51 dT,.undef],.row 9 y.2 true]⟩)
   (fun y=>y.1≤n_dl∧∃ l,y.2=encL encS l∧ledTo i ((ts.take y.1).flatMap Ty.uses) l) (fun y=>n_dl-y.1) (0,.list []) ⟨Nat.zero_le _,[],rfl,ledTo.nil i⟩ ?_ ?_
  ·refine ⟨[0,1],rfl,?_⟩
   (cbv;repeat' apply And.intro);all_goals try first|trivial|rfl|(rw [X.a];rfl)
   all_goals first|exact hdl0.symm|exact congrArg A.len hdl0.symm
  rintro ⟨k,r⟩ ⟨hk,l,hr,hl⟩
  simp only at hk hr hl
  cbv
  refine ⟨fun h1=> ?_,fun h1=> ?_⟩
  ·have h5:k<ts.length:=by obtain rfl:=X.a;simp only [hlen_dl,SD,bNot] at h1;omega
   have k1:=tyAt X.a hdl h5
   have hid:A.idx (Int.ofNat k) (A.len dl):=by rw [X.a,hdl];exact leaf_idx h5
   have hin:A.inr .i64 (A.add (Int.ofNat k) 1):=by rw [X.a];exact leaf_inc h5 (by omega)
   obtain ⟨hle1,hsz1⟩:=htle _ (List.getElem_mem h5)
   cbv
   repeat' (first|apply And.intro|exact fun (_:FF)=>by kernel_rfl|(intro h2;cbv)|apply Or.inl)
   any_goals exact hid
   refine X.call (F74 hle1 (Nat.le_trans hsz1 (by decide)) k1 fun lu rl hrl hsl hml=> ?_)
   have hul:=uses_len ts[k]
   have hll:lu.length≤ts[k].uses.length:=nodup_sub_len (SrtU_nodup hsl) fun u hu=>(hml u).1 hu
   have hol:((ts.take k).flatMap Ty.uses).length≤2097152:=by
    rw [List.length_flatMap]
    have:∀ q:List Ty,(∀ t∈q,t.size≤1048576)→(q.map fun t=>t.uses.length).sum≤q.length*1048576:=by
     intro q
     induction q with
     |nil=>simp
     |cons t q ih=>
      intro hq
      have a:=ih fun t ht=>hq t (by simp [ht])
      have b:=uses_len t
      have c:=hq t (by simp)
      simp only [List.map_cons,List.sum_cons,List.length_cons];omega
    have e:=this (ts.take k) fun t ht=>(htle t (List.mem_of_mem_take ht)).2
    have f:(ts.take k).length≤2:=by rw [List.length_take];omega
    omega
   have hlc:=hl.2
   obtain ⟨n_rl,hn_rl,hlen_rl⟩:=lenOf hrl
   clear h1
   cbv
   refine X.loopP (fun (y:Nat×D)=>⟨[(30,.int .i64 y.1),(29,.int .i64 (A.len rl)),(28,.lst 124 rl),(23,.int .i64 k),(22,.int .i64 (A.len dl)),(21,.lst 28 dl),(5,.row 9 1),(2,.box 0 0)],[.box [.lst 40 d,.dmp 51 dT,.undef],.row 9 y.2 true]⟩)
    (fun y=>y.1≤n_rl∧∃ l2,y.2=encL encS (l++l2)∧ledTo i (lu.take y.1) l2) (fun y=>n_rl-y.1) (0,r) ⟨Nat.zero_le _,[],by rw [List.append_nil];exact hr,ledTo.nil i⟩ ?_ ?_
   ·refine ⟨[0,1],rfl,?_⟩
    (cbv;repeat' apply And.intro);all_goals try first|trivial|rfl|(rw [X.a];rfl)
   rintro ⟨j,r2⟩ ⟨hj,l2,hr2,hl2⟩
   simp only at hj hr2 hl2
   cbv
   refine ⟨fun h1=> ?_,fun h1=> ?_⟩
   ·have h6:j<lu.length:=by obtain rfl:=X.a;simp only [hlen_rl,SD,bNot] at h1;omega
    obtain ⟨ku1,ku2⟩:=uAt X.a hrl h6
    have hid2:A.idx (Int.ofNat j) (A.len rl):=by rw [X.a,hrl];exact leaf_idx h6
    have hin2:A.inr .i64 (A.add (Int.ofNat j) 1):=by rw [X.a];exact leaf_inc h6 (by omega)
    have hl2c:=hl2.2
    have hl2l:l2.length≤2097152:=by rw [List.length_take] at hl2c;omega
    have hst:=hl2.step (u:=lu[j])
    rw [← take_succ' h6] at hst
    have hbn:∀ e:S,A.bnd (A.add (A.len r2) (A.len (A.lit [[.str e]]))) 4294967296:=by
     intro e;rw [X.a,hr2];simp only [SD,bNot,List.length_map];omega
    have happ:∀ e:S,A.app r2 (A.lit [[.str e]])=encL encS (l++(l2++[e])):=by
     intro e;rw [X.a,hr2,←List.append_assoc];exact Std_app (k:=[e])
    clear h1
    cbv
    repeat' (first|apply And.intro|exact fun (_:FF)=>by kernel_rfl|(intro h2;cbv)|apply Or.inl)
    any_goals exact hid2
    refine X.call (F174 hi hm hd hT fun e b hb he=> ?_)
    have hb:b=(leadsR i (A.asStr (A.cell rl (Int.ofNat j) 0)) (A.asStr (A.cell rl (Int.ofNat j) 1))).isSome:=hb
    have he:b=true→leadsR i (A.asStr (A.cell rl (Int.ofNat j) 0)) (A.asStr (A.cell rl (Int.ofNat j) 1))=some e:=he
    rw [ku1,ku2] at hb he
    cbv
    repeat' (first|apply And.intro|exact fun (_:FF)=>by kernel_rfl|(intro h2;cbv)|apply Or.inl)
    any_goals exact hin2
    any_goals exact hbn e
    ·have e2:b=true:=by assumption
     refine ⟨(j+1,_),⟨by simp only;omega,l2++[e],happ e,hst.1 e (he e2)⟩,by simp only;omega,[0,1],rfl,?_⟩
     (cbv;repeat' apply And.intro);all_goals try first|trivial|rfl|(rw [X.a];rfl)
    ·have e2:b=false:=by assumption
     rw [e2] at hb
     refine ⟨(j+1,r2),⟨by simp only;omega,l2,hr2,hst.2 (by simpa using hb.symm)⟩,by simp only;omega,[0,1],rfl,?_⟩
     (cbv;repeat' apply And.intro);all_goals try first|trivial|rfl|(rw [X.a];rfl)
   ·have h6:j=n_rl:=by obtain rfl:=X.a;simp only [hlen_rl,SD,bNot] at h1;omega
    rw [h6,hn_rl,List.take_length] at hl2
    have hfin:ledTo i ((ts.take (k+1)).flatMap Ty.uses) (l++l2):=by rw [flat_take h5];exact hl.app hl2 hml hll
    cbv
    repeat' (first|apply And.intro|exact fun (_:FF)=>by kernel_rfl|(intro h2;cbv)|apply Or.inl)
    any_goals exact hin
    refine ⟨(k+1,r2),⟨by simp only;omega,l++l2,hr2,hfin⟩,by simp only;omega,[0,1],rfl,?_⟩
    (cbv;repeat' apply And.intro);all_goals try first|trivial|rfl|(rw [X.a];rfl)
  ·have h5:k=n_dl:=by obtain rfl:=X.a;simp only [hlen_dl,SD,bNot] at h1;omega
   rw [h5,hn_dl,List.take_length,←huse] at hl
   cbv
   exact h l r hr hl
 ·rw [hhas] at h1
  have hx:tyF i n=none:=by simpa using h1
  obtain ⟨x,hxz⟩:∃ x,x=TE.zero:=⟨_,rfl⟩
  have klo:tyIs x.lower 0 [] [] (.list []) (.list []):=by rw [hxz];exact ⟨rfl,rfl,rfl,rfl,rfl⟩
  have kup:tyIs x.upper 0 [] [] (.list []) (.list []):=by rw [hxz];exact ⟨rfl,rfl,rfl,rfl,rfl⟩
  have hlo:Ty.le 4294967295 x.lower∧x.lower.size≤1048576:=by rw [hxz];exact ⟨zeroTE_ok.lo,by decide⟩
  have hup:Ty.le 4294967295 x.upper∧x.upper.size≤1048576:=by rw [hxz];exact ⟨zeroTE_ok.up,by decide⟩
  have huse:usesOf i n=[x.lower,x.upper].flatMap Ty.uses:=by rw [usesOf,hx,hxz];simp
  clear h1 hhas hget
  obtain ⟨dl,hdl0⟩:∃ dl,dl=A.lit [[.int 0,.str [],.str [],.list [],.list []],[.int 0,.str [],.str [],.list [],.list []]]:=⟨_,rfl⟩
  have hdl:dl=encL encTy [x.lower,x.upper]:=hdl0.trans (lit2Ty X.a klo kup)
  obtain ⟨ts,hts⟩:∃ ts,ts=[x.lower,x.upper]:=⟨_,rfl⟩
  have htl:ts.length=2:=by rw [hts];rfl
  have htle:∀ t∈ts,Ty.le 4294967295 t∧t.size≤1048576:=by rw [hts];intro t ht;simp at ht;rcases ht with rfl|rfl;exact hlo;exact hup
  rw [← hts] at hdl huse
  obtain ⟨n_dl,hn_dl,hlen_dl⟩:=lenOf hdl
  cbv
  refine X.loopP (fun (y:Nat×D)=>⟨[(23,.int .i64 y.1),(22,.int .i64 (A.len dl)),(21,.lst 28 dl),(5,.row 9 1),(2,.box 0 0)],[.box [.lst 40 d,.dmp 51 dT,.undef],.row 9 y.2 true]⟩)
   (fun y=>y.1≤n_dl∧∃ l,y.2=encL encS l∧ledTo i ((ts.take y.1).flatMap Ty.uses) l) (fun y=>n_dl-y.1) (0,.list []) ⟨Nat.zero_le _,[],rfl,ledTo.nil i⟩ ?_ ?_
  ·refine ⟨[0,1],rfl,?_⟩
   (cbv;repeat' apply And.intro);all_goals try first|trivial|rfl|(rw [X.a];rfl)
   all_goals first|exact hdl0.symm|exact congrArg A.len hdl0.symm
  rintro ⟨k,r⟩ ⟨hk,l,hr,hl⟩
  simp only at hk hr hl
  cbv
  refine ⟨fun h1=> ?_,fun h1=> ?_⟩
  ·have h5:k<ts.length:=by obtain rfl:=X.a;simp only [hlen_dl,SD,bNot] at h1;omega
   have k1:=tyAt X.a hdl h5
   have hid:A.idx (Int.ofNat k) (A.len dl):=by rw [X.a,hdl];exact leaf_idx h5
   have hin:A.inr .i64 (A.add (Int.ofNat k) 1):=by rw [X.a];exact leaf_inc h5 (by omega)
   obtain ⟨hle1,hsz1⟩:=htle _ (List.getElem_mem h5)
   cbv
   repeat' (first|apply And.intro|exact fun (_:FF)=>by kernel_rfl|(intro h2;cbv)|apply Or.inl)
   any_goals exact hid
   refine X.call (F74 hle1 (Nat.le_trans hsz1 (by decide)) k1 fun lu rl hrl hsl hml=> ?_)
   have hul:=uses_len ts[k]
   have hll:lu.length≤ts[k].uses.length:=nodup_sub_len (SrtU_nodup hsl) fun u hu=>(hml u).1 hu
   have hol:((ts.take k).flatMap Ty.uses).length≤2097152:=by
    rw [List.length_flatMap]
    have:∀ q:List Ty,(∀ t∈q,t.size≤1048576)→(q.map fun t=>t.uses.length).sum≤q.length*1048576:=by
     intro q
     induction q with
     |nil=>simp
     |cons t q ih=>
      intro hq
      have a:=ih fun t ht=>hq t (by simp [ht])
      have b:=uses_len t
      have c:=hq t (by simp)
      simp only [List.map_cons,List.sum_cons,List.length_cons];omega
    have e:=this (ts.take k) fun t ht=>(htle t (List.mem_of_mem_take ht)).2
    have f:(ts.take k).length≤2:=by rw [List.length_take];omega
    omega
   have hlc:=hl.2
   obtain ⟨n_rl,hn_rl,hlen_rl⟩:=lenOf hrl
   clear h1
   cbv
   refine X.loopP (fun (y:Nat×D)=>⟨[(30,.int .i64 y.1),(29,.int .i64 (A.len rl)),(28,.lst 124 rl),(23,.int .i64 k),(22,.int .i64 (A.len dl)),(21,.lst 28 dl),(5,.row 9 1),(2,.box 0 0)],[.box [.lst 40 d,.dmp 51 dT,.undef],.row 9 y.2 true]⟩)
    (fun y=>y.1≤n_rl∧∃ l2,y.2=encL encS (l++l2)∧ledTo i (lu.take y.1) l2) (fun y=>n_rl-y.1) (0,r) ⟨Nat.zero_le _,[],by rw [List.append_nil];exact hr,ledTo.nil i⟩ ?_ ?_
   ·refine ⟨[0,1],rfl,?_⟩
    (cbv;repeat' apply And.intro);all_goals try first|trivial|rfl|(rw [X.a];rfl)
   rintro ⟨j,r2⟩ ⟨hj,l2,hr2,hl2⟩
   simp only at hj hr2 hl2
   cbv
   refine ⟨fun h1=> ?_,fun h1=> ?_⟩
   ·have h6:j<lu.length:=by obtain rfl:=X.a;simp only [hlen_rl,SD,bNot] at h1;omega
    obtain ⟨ku1,ku2⟩:=uAt X.a hrl h6
    have hid2:A.idx (Int.ofNat j) (A.len rl):=by rw [X.a,hrl];exact leaf_idx h6
    have hin2:A.inr .i64 (A.add (Int.ofNat j) 1):=by rw [X.a];exact leaf_inc h6 (by omega)
    have hl2c:=hl2.2
    have hl2l:l2.length≤2097152:=by rw [List.length_take] at hl2c;omega
    have hst:=hl2.step (u:=lu[j])
    rw [← take_succ' h6] at hst
    have hbn:∀ e:S,A.bnd (A.add (A.len r2) (A.len (A.lit [[.str e]]))) 4294967296:=by
     intro e;rw [X.a,hr2];simp only [SD,bNot,List.length_map];omega
    have happ:∀ e:S,A.app r2 (A.lit [[.str e]])=encL encS (l++(l2++[e])):=by
     intro e;rw [X.a,hr2,←List.append_assoc];exact Std_app (k:=[e])
    clear h1
    cbv
    repeat' (first|apply And.intro|exact fun (_:FF)=>by kernel_rfl|(intro h2;cbv)|apply Or.inl)
    any_goals exact hid2
    refine X.call (F174 hi hm hd hT fun e b hb he=> ?_)
    have hb:b=(leadsR i (A.asStr (A.cell rl (Int.ofNat j) 0)) (A.asStr (A.cell rl (Int.ofNat j) 1))).isSome:=hb
    have he:b=true→leadsR i (A.asStr (A.cell rl (Int.ofNat j) 0)) (A.asStr (A.cell rl (Int.ofNat j) 1))=some e:=he
    rw [ku1,ku2] at hb he
    cbv
    repeat' (first|apply And.intro|exact fun (_:FF)=>by kernel_rfl|(intro h2;cbv)|apply Or.inl)
    any_goals exact hin2
    any_goals exact hbn e
    ·have e2:b=true:=by assumption
     refine ⟨(j+1,_),⟨by simp only;omega,l2++[e],happ e,hst.1 e (he e2)⟩,by simp only;omega,[0,1],rfl,?_⟩
     (cbv;repeat' apply And.intro);all_goals try first|trivial|rfl|(rw [X.a];rfl)
    ·have e2:b=false:=by assumption
     rw [e2] at hb
     refine ⟨(j+1,r2),⟨by simp only;omega,l2,hr2,hst.2 (by simpa using hb.symm)⟩,by simp only;omega,[0,1],rfl,?_⟩
     (cbv;repeat' apply And.intro);all_goals try first|trivial|rfl|(rw [X.a];rfl)
   ·have h6:j=n_rl:=by obtain rfl:=X.a;simp only [hlen_rl,SD,bNot] at h1;omega
    rw [h6,hn_rl,List.take_length] at hl2
    have hfin:ledTo i ((ts.take (k+1)).flatMap Ty.uses) (l++l2):=by rw [flat_take h5];exact hl.app hl2 hml hll
    cbv
    repeat' (first|apply And.intro|exact fun (_:FF)=>by kernel_rfl|(intro h2;cbv)|apply Or.inl)
    any_goals exact hin
    refine ⟨(k+1,r2),⟨by simp only;omega,l++l2,hr2,hfin⟩,by simp only;omega,[0,1],rfl,?_⟩
    (cbv;repeat' apply And.intro);all_goals try first|trivial|rfl|(rw [X.a];rfl)
  ·have h5:k=n_dl:=by obtain rfl:=X.a;simp only [hlen_dl,SD,bNot] at h1;omega
   rw [h5,hn_dl,List.take_length,←huse] at hl
   cbv
   exact h l r hr hl
end Go.VC.T07
end

section
namespace Go.VC
inductive Rch (i:IF):S→S→Prop
 |one {a b:S} (h:dirP i a b):Rch i a b
 |more {a b c:S} (h:Rch i a b) (k:dirP i b c):Rch i a c
theorem Rch.trans {i:IF} {a b c:S} (h:Rch i a b) (k:Rch i b c):Rch i a c:=by
 induction k with
 |one h'=>exact .more h h'
 |more _ k' ih=>exact .more ih k'
theorem leads_has {i:IF} {m n e:S} (h:leadsR i m n=some e):(tyF i e).isSome=true:=by
 unfold leadsR at h
 split at h
 ·split at h
  ·rename_i hs;cases h;exact hs
  ·cases h
 ·split at h
  ·rename_i hs;cases h;exact hs
  ·cases h
 ·cases h
theorem dir_has {i:IF} {a b:S} (h:dirP i a b):(tyF i b).isSome=true:=by
 obtain ⟨u,_,hu⟩:=h;exact leads_has hu
theorem Rch.has {i:IF} {a b:S} (h:Rch i a b):(tyF i b).isSome=true:=by
 cases h with
 |one h=>exact dir_has h
 |more _ k=>exact dir_has k
theorem ty_mem {i:IF} {n:S} (h:(tyF i n).isSome=true):n∈i.types.map (·.name):=by
 obtain ⟨x,hx⟩:=Option.isSome_iff_exists.1 h
 have h1:=List.mem_of_find?_eq_some hx
 have h2:=List.find?_some hx
 simp at h2
 exact List.mem_map.2 ⟨x,h1,h2⟩
theorem nodup_types {i:IF} {L:List S} (hn:L.Nodup) (h:∀ s∈L,(tyF i s).isSome=true):L.length≤i.types.length:=by
 have:=nodup_sub_len hn fun s hs=>ty_mem (h s hs)
 simpa using this
structure KS (m:List (S×Bool)) (p:S→Prop):Prop where
 nd:(m.map (·.1)).Nodup
 mem:∀ s,s∈m.map (·.1)↔p s
 tr:∀ x∈m,x.2=true
def usesSz (i:IF) (n:S):Nat:=(usesOf i n).length
def refsSz (i:IF):Nat:=(i.types.map fun x=>x.lower.size+x.upper.size).sum
theorem uses_find (l:List TE) (n:S):(((l.find? fun x=>x.name==n).getD TE.zero).lower.uses++((l.find? fun x=>x.name==n).getD TE.zero).upper.uses).length=((l.find? fun x=>x.name==n).map fun x=>(x.lower.uses++x.upper.uses).length).getD 0:=by
 cases l.find? fun x=>x.name==n with
 |some x=>rfl
 |none=>rw [Option.getD_none,zeroT_uses];rfl
theorem sum_find:∀ (l:List TE) (f:TE→Nat) (L:List S),L.Nodup→(L.map fun n=>((l.find? fun x=>x.name==n).map f).getD 0).sum≤(l.map f).sum
 |[],f,L,_=>by
  have:∀ L:List S,(L.map fun n=>((([]:List TE).find? fun x=>x.name==n).map f).getD 0).sum=0:=by
   intro L
   induction L with
   |nil=>rfl
   |cons s L ih=>rw [List.map_cons,List.sum_cons,ih];rfl
  rw [this];exact Nat.zero_le _
 |x::l,f,L,hn=>by
  have ih:=sum_find l f L hn
  have key:(L.map fun n=>(((x::l).find? fun y=>y.name==n).map f).getD 0).sum≤f x+(L.map fun n=>((l.find? fun y=>y.name==n).map f).getD 0).sum:=by
   clear ih
   induction L with
   |nil=>simp
   |cons s L ihL=>
    rw [List.nodup_cons] at hn
    have ihL:=ihL hn.2
    simp only [List.map_cons,List.sum_cons]
    by_cases hs:x.name=s
    ·have hb:(x.name==s)=true:=by simpa using hs
     have hrest:∀ n∈L,(((x::l).find? fun y=>y.name==n).map f).getD 0=((l.find? fun y=>y.name==n).map f).getD 0:=by
      intro n hnL
      have:(x.name==n)=false:=by
       rw [beq_eq_false_iff_ne];intro e;exact hn.1 (by rw [← hs,e];exact hnL)
      rw [List.find?_cons,this]
     rw [List.map_congr_left hrest,List.find?_cons,hb]
     simp only [Option.map_some,Option.getD_some]
     omega
    ·have hb:(x.name==s)=false:=by simpa using hs
     rw [List.find?_cons,hb]
     simp only
     omega
  simp only [List.map_cons,List.sum_cons]
  omega
theorem uses_sum (i:IF) {L:List S} (hn:L.Nodup):(L.map (usesSz i)).sum≤refsSz i:=by
 have h1:(L.map (usesSz i))=L.map fun n=>((i.types.find? fun x=>x.name==n).map fun x=>(x.lower.uses++x.upper.uses).length).getD 0:=by
  refine List.map_congr_left fun n _=> ?_
  exact uses_find i.types n
 rw [h1]
 refine Nat.le_trans (sum_find i.types _ L hn) ?_
 unfold refsSz
 generalize i.types=l
 induction l with
 |nil=>simp
 |cons x l ih=>
  have a:=uses_len x.lower
  have b:=uses_len x.upper
  simp only [List.map_cons,List.sum_cons,List.length_append] at ih ⊢
  omega
theorem uses_one (i:IF) (n:S):usesSz i n≤refsSz i:=by
 have:=uses_sum i (L:=[n]) (by simp)
 simpa using this
structure Srch (i:IF) (n:S) (L W:List S):Prop where
 nd:L.Nodup
 inL:∀ s∈L,Rch i n s
 inW:∀ s∈W,Rch i n s
 st:∀ e,dirP i n e→e∈L∨e∈W
 cl:∀ s∈L,∀ e,dirP i s e→e∈L∨e∈W
 len:W.length≤usesSz i n+(L.map (usesSz i)).sum
theorem ledTo.dir {i:IF} {n:S} {l:List S} (h:ledTo i (usesOf i n) l):∀ e,e∈l↔dirP i n e:=h.1
theorem Srch.start {i:IF} {n:S} {l:List S} (h:ledTo i (usesOf i n) l):Srch i n [] l:=
 ⟨by simp,by simp,fun s hs=>.one ((h.dir s).1 hs),fun e he=>.inr ((h.dir e).2 he),by simp,by simpa [usesSz] using h.2⟩
theorem Srch.old {i:IF} {n s:S} {L W:List S} (h:Srch i n L (s::W)) (hs:s∈L):Srch i n L W:=by
 refine ⟨h.nd,h.inL,fun x hx=>h.inW x (by simp [hx]),fun e he=> ?_,fun x hx e he=> ?_,by have:=h.len;simp at this;omega⟩
 ·rcases h.st e he with h1|h1
  ·exact .inl h1
  ·rcases List.mem_cons.1 h1 with rfl|h1
   ·exact .inl hs
   ·exact .inr h1
 ·rcases h.cl x hx e he with h1|h1
  ·exact .inl h1
  ·rcases List.mem_cons.1 h1 with rfl|h1
   ·exact .inl hs
   ·exact .inr h1
theorem Srch.new {i:IF} {n s:S} {L W l:List S} (h:Srch i n L (s::W)) (hs:s∉L) (hl:ledTo i (usesOf i s) l):Srch i n (L++[s]) (W++l):=by
 have hr:=h.inW s (by simp)
 refine ⟨?_,?_,?_,?_,?_,?_⟩
 ·rw [List.nodup_append]
  exact ⟨h.nd,by simp,fun a ha b hb=>by simp at hb;subst hb;exact fun e=>hs (e▸ha)⟩
 ·intro x hx
  rcases List.mem_append.1 hx with hx|hx
  ·exact h.inL x hx
  ·simp at hx;subst hx;exact hr
 ·intro x hx
  rcases List.mem_append.1 hx with hx|hx
  ·exact h.inW x (by simp [hx])
  ·exact .more hr ((hl.dir x).1 hx)
 ·intro e he
  rcases h.st e he with h1|h1
  ·exact .inl (by simp [h1])
  ·rcases List.mem_cons.1 h1 with rfl|h1
   ·exact .inl (by simp)
   ·exact .inr (by simp [h1])
 ·intro x hx e he
  rcases List.mem_append.1 hx with hx|hx
  ·rcases h.cl x hx e he with h1|h1
   ·exact .inl (by simp [h1])
   ·rcases List.mem_cons.1 h1 with rfl|h1
    ·exact .inl (by simp)
    ·exact .inr (by simp [h1])
  ·simp at hx;subst hx
   exact .inr (List.mem_append_right _ ((hl.dir e).2 he))
 ·have a:=h.len
  have b:=hl.2
  simp only [List.length_cons,List.length_append,List.map_append,List.sum_append,List.map_cons,List.map_nil,List.sum_cons,List.sum_nil] at*
  unfold usesSz at*
  omega
theorem Srch.fin {i:IF} {n:S} {L:List S} (h:Srch i n L []):∀ s,s∈L↔Rch i n s:=by
 intro s
 refine ⟨h.inL s,fun hr=> ?_⟩
 induction hr with
 |one hd=>rcases h.st _ hd with h1|h1;exact h1;simp at h1
 |more _ hd ih=>rcases h.cl _ ih _ hd with h1|h1;exact h1;simp at h1
theorem Srch.lenL {i:IF} {n:S} {L W:List S} (h:Srch i n L W):L.length≤i.types.length:=nodup_types h.nd fun s hs=>(h.inL s hs).has
theorem Srch.lenW {i:IF} {n:S} {L W:List S} (h:Srch i n L W):W.length≤2*refsSz i:=by
 have a:=h.len
 have b:=uses_sum i h.nd
 have c:=uses_one i n
 omega
end Go.VC
namespace Go.VC.T07
open Go Go.VC Go.Proofs
def g81a:Cfg:={tt:=tt,n:=32,own:=[16]}
theorem F81 {i:IF} (hi:i.ok) (hsz:∀ x∈i.types,x.lower.size≤1048576∧x.upper.size≤1048576) (hrf:refsSz i≤1048576) {m:List (S×TE)} (hm:TM m i) {d dT:D} (hd:d=encL encIF [i]) (hT:dT=encL (encKV encTE) m) {n:S} {K:PV→List Ob→Prop}
  (h:∀ k r,r=encL encKB k→KS k (Rch i n)→K (.mp 0) [.map .str 4 r]):
  FC Tryz.prog tt 81 [] [.agg [.lst 40 d,.dmp 51 dT,.undef],.str n] K:=by
 refine FC.enterOwn (G:=g81a) tt_ok mixed ⟨Tryz.func81,by rfl,rfl⟩ rfl rfl rfl ?_
 intro A C L X
 have hneg:=negA X.a
 cbv
 refine X.call (F130 hi hsz hm hd hT fun l0 r0 hr0 hl0=> ?_)
 cbv
 refine X.loopP (fun (y:(List S×List S)×D×D×Bool)=>⟨[(6,.row 9 2),(5,.mp 1),(2,.box 0 0)],[.box [.lst 40 d,.dmp 51 dT,.undef],.map .str 4 y.2.1,.row 9 y.2.2.1 y.2.2.2]⟩)
  (fun y=>Srch i n y.1.1 y.1.2∧y.2.2.1=encL encS y.1.2∧∃ k,y.2.1=encL encKB k∧KT k y.1.1) (fun y=>y.1.2.length+(i.types.length-y.1.1.length)*(refsSz i+1)) (([],l0),.list [],r0,true) ⟨.start hl0,hr0,[],rfl,KT.nil⟩ ?_ ?_
 ·refine ⟨[0,1,2],rfl,?_⟩
  (cbv;repeat' apply And.intro);all_goals try first|trivial|rfl|(rw [X.a];rfl)
 rintro ⟨⟨Ls,W⟩,dm,dW,wr⟩ ⟨hS,hW,k,hdm,hk⟩
 simp only at hS hW hdm hk
 have hlW:=hS.lenW
 have hlL:=hS.lenL
 obtain ⟨n_dW,hn_dW,hlen_dW⟩:=lenOf hW
 cbv
 refine ⟨fun h1=> ?_,fun h1=> ?_⟩
 ·have h1':A.lt 0 (A.len dW)=true:=h1
  match W,hW,hn_dW,hS,hlW with
  |[],hW,hn_dW,hS,hlW=>exfalso;obtain rfl:=X.a;rw [hlen_dW,hn_dW] at h1';cases h1'
  |s::W,hW,hn_dW,hS,hlW=>
  have hid:A.idx 0 (A.len dW):=by rw [X.a,hW];exact leaf_idx (i:=0) (by simp)
  have ks:A.asStr (A.cell dW 0 0)=s:=strAt X.a hW (i:=0) (by simp)
  have hget:A.asBool (A.mget dm (.str (A.asStr (A.cell dW 0 0))) 0)=decide (s∈Ls):=by rw [ks,X.a,hdm];exact Std_getK hk _
  have hset:A.mset dm (.str (A.asStr (A.cell dW 0 0))) [.bool true]=encL encKB (addK k s):=by rw [ks,X.a,hdm];exact Std_addK
  have hbd1:A.bnd 1 (A.len dW):=by rw [X.a,hW,Std_len];exact ⟨by decide,by simp;omega⟩
  have hpart:A.part dW 1 (A.len dW)=encL encS W:=by rw [X.a,hW,Std_len];have:=Std_part (f:=encS) (l:=s::W) (a:=1) (b:=(s::W).length);simpa using this
  simp only [List.length_cons] at hlW
  clear h1 h1'
  cbv
  repeat' (first|apply And.intro|exact fun (_:FF)=>by kernel_rfl|(intro h2;cbv)|apply Or.inl)
  any_goals exact hid
  ·have e1:A.not (A.asBool (A.mget dm (.str (A.asStr (A.cell dW 0 0))) 0))=true:=by assumption
   rw [hneg,hget] at e1
   have hs:s∉Ls:=by simpa using e1
   refine X.call (F130 hi hsz hm hd hT fun l r hr hl=> ?_)
   have hl':ledTo i (usesOf i s) l:=ks▸hl
   have hnew:=hS.new hs hl'
   have hlen2:=hnew.lenW
   have hlL2:=hnew.lenL
   have hll:=hl'.2
   have hu1:=uses_one i s
   simp only [usesSz] at hu1
   simp only [List.length_append,List.length_singleton] at hlen2 hlL2
   have hbn:A.bnd (A.add (A.len dW) (A.len r)) 4294967296:=by
    rw [X.a,hW,hr,Std_len,Std_len,Std_add];refine ⟨by simp;omega,by simp;omega⟩
   have happ:A.app dW r=encL encS (s::(W++l)):=by rw [X.a,hW,hr];exact Std_app
   have hbd2:A.bnd 1 (A.len (A.app dW r)):=by rw [happ,X.a,Std_len];exact ⟨by decide,by simp;omega⟩
   have hpart2:A.part (A.app dW r) 1 (A.len (A.app dW r))=encL encS (W++l):=by rw [happ,X.a,Std_len];have:=Std_part (f:=encS) (l:=s::(W++l)) (a:=1) (b:=(s::(W++l)).length);rw [List.drop_one,List.tail_cons,List.take_of_length_le (by simp)] at this;exact this
   have hmes:(W++l).length+(i.types.length-(Ls++[s]).length)*(refsSz i+1)<(s::W).length+(i.types.length-Ls.length)*(refsSz i+1):=by
    have:i.types.length-Ls.length=(i.types.length-(Ls.length+1))+1:=by omega
    have e2:(Ls++[s]).length=Ls.length+1:=by simp
    rw [e2,this,Nat.add_mul,Nat.one_mul,List.length_append,List.length_cons]
    omega
   have hk2:=hk.add s
   cbv
   repeat' (first|apply And.intro|exact fun (_:FF)=>by kernel_rfl|(intro h2;cbv)|apply Or.inl)
   any_goals first|exact hbn|exact hbd2
   refine ⟨((Ls++[s],W++l),_,_,false),⟨hnew,hpart2,_,hset,hk2⟩,hmes,[0,1,2],rfl,?_⟩
   (cbv;repeat' apply And.intro);all_goals try first|trivial|rfl|(rw [X.a];rfl)
  any_goals exact hbd1
  ·have e1:A.not (A.asBool (A.mget dm (.str (A.asStr (A.cell dW 0 0))) 0))=false:=by assumption
   rw [hneg,hget] at e1
   have hs:s∈Ls:=by simpa using e1
   refine ⟨((Ls,W),_,_,false),⟨hS.old hs,hpart,k,hdm,hk⟩,by simp only [List.length_cons];omega,[0,1,2],rfl,?_⟩
   (cbv;repeat' apply And.intro);all_goals try first|trivial|rfl|(rw [X.a];rfl)
 ·have h1':A.lt 0 (A.len dW)=false:=h1
  have hW0:W=[]:=by
   obtain rfl:=X.a
   rw [hlen_dW,Std_lt] at h1'
   have:=of_decide_eq_false h1'
   exact List.eq_nil_of_length_eq_zero (by simp only [Int.ofNat_eq_natCast] at this;omega)
  subst hW0
  have hfin:=hS.fin
  cbv
  exact h k dm hdm ⟨hk.nd,fun s=>(hk.mem s).trans (hfin s),hk.tr⟩
end Go.VC.T07
end

section
namespace Go.VC
def addB (m:List (S×TE)) (l:List TE):List (S×TE):=l.foldr (fun x m=>putV x.name x m) m
theorem addB_nodup {m:List (S×TE)} (l:List TE) (h:(m.map (·.1)).Nodup):((addB m l).map (·.1)).Nodup:=by
 induction l with
 |nil=>exact h
 |cons x l ih=>exact put_nodup ih
theorem addB_look {l:List TE} {n:S}:lookV (addB [] l) n=l.find? fun x=>x.name==n:=by
 induction l with
 |nil=>rfl
 |cons x l ih=>
  show lookV (putV x.name x (addB [] l)) n=_
  rw [look_put,List.find?_cons]
  by_cases h:n=x.name
  ·rw [if_pos h];simp [h]
  ·rw [if_neg h]
   have:(x.name==n)=false:=by rw [beq_eq_false_iff_ne];exact fun e=>h e.symm
   rw [this];exact ih
theorem addB_len (l:List TE):(addB [] l).length≤l.length:=by
 induction l with
 |nil=>exact Nat.le_refl 0
 |cons x l ih=>
  show (putV x.name x (addB [] l)).length≤_
  have:=put_len (m:=addB [] l) (k:=x.name) (v:=x)
  simp only [List.length_cons];omega
theorem TM.of (i:IF):TM (addB [] i.types) i:=⟨addB_nodup _ (by simp),fun n=>addB_look⟩
def enc1 (q:D):List D:=[q]
structure UM (mu:List (S×D)) (i:IF) (p:S→Prop):Prop where
 nd:(mu.map (·.1)).Nodup
 mem:∀ s,s∈mu.map (·.1)↔p s
 get:∀ s q,lookV mu s=some q→∃ k,q=encL encKB k∧KS k (Rch i s)
theorem UM.nil (i:IF):UM [] i (fun _=>False):=⟨by simp,by simp,fun s q h=>by simp [lookV] at h⟩
theorem UM.put {mu:List (S×D)} {i:IF} {p:S→Prop} (h:UM mu i p) {s:S} {k:List (S×Bool)} (hk:KS k (Rch i s)) {p':S→Prop} (hp:∀ x,p' x↔x=s∨p x):UM (putV s (encL encKB k) mu) i p':=by
 refine ⟨put_nodup h.nd,fun x=>by rw [put_keys,hp,h.mem],fun x q hq=> ?_⟩
 rw [look_put] at hq
 split at hq
 ·rename_i e;subst e;cases hq;exact ⟨k,rfl,hk⟩
 ·exact h.get x q hq
end Go.VC
namespace Go.VC.T07
open Go Go.VC Go.Proofs
theorem F80 {d:D} {K:PV→List Ob→Prop} (h:K (.clos 129 [.pptr [.lst 51 d] 0]) []):FC Tryz.prog tt 80 [] [.lst 51 d] K:=by
 refine FC.enter (G:=g80) tt_ok mixed ⟨Tryz.func80,by rfl,rfl⟩ rfl rfl rfl ?_
 intro A C L X
 cbv
 exact h
def g129a:Cfg:={tt:=tt,n:=19,live:=[129],n0:=4}
theorem F129 {C1 C2:Code} {dA dU d dT:D} {l:List TE} (hd:d=encL encTE l) (hl:l.length≤4294967295) {m:List (S×TE)} (hT:dT=encL (encKV encTE) m)
  (hy:∀ (x:TE) (m:List (S×TE)) (dT:D) (j:Int) (c0:S) (c1:D) (c2:Int) (c3 c4:S) (c5 c6:D) (c7:Int) (c8 c9:S) (c10 c11:D) (K':PV→List Ob→Prop),x∈l→teIs x c0 c1 c2 c3 c4 c5 c6 c7 c8 c9 c10 c11→dT=encL (encKV encTE) m→
   (∀ r,r=encL (encKV encTE) (putV x.name x m)→K' (.bl true) [.loop 36 [15,16] C1 C2 [(3,.box 1 0)] .ready,.box [.lst 40 dA,.mp 2,.mp 3],.map .str 51 r,.map .str 85 dU])→
   YC Tryz.prog tt [.loop 36 [15,16] C1 C2 [(3,.box 1 0)] .ready,.box [.lst 40 dA,.mp 2,.mp 3],.map .str 51 dT,.map .str 85 dU] [.int .i64 j,tePV c0 c1 c2 c3 c4 c5 c6 c7 c8 c9 c10 c11] K')
  {K:PV→List Ob→Prop} (h:∀ r,r=encL (encKV encTE) (addB m l)→K (.tup []) [.loop 36 [15,16] C1 C2 [(3,.box 1 0)] .ready,.box [.lst 40 dA,.mp 2,.mp 3],.map .str 51 r,.map .str 85 dU]):
  FC Tryz.prog tt 129 [.loop 36 [15,16] C1 C2 [(3,.box 1 0)] .ready,.box [.lst 40 dA,.mp 2,.mp 3],.map .str 51 dT,.map .str 85 dU] [.yld 0,.pptr [.lst 51 d] 0] K:=by
 refine FC.enterLive (G:=g129a) tt_ok mixed ⟨Tryz.func129,by rfl,rfl⟩ rfl rfl rfl ?_
 intro A C L X
 obtain ⟨n_d,hn_d,hlen_d⟩:=lenOf hd
 have hneg1:A.not true=false:=by rw [X.a];rfl
 have hlen:A.len d=Int.ofNat l.length:=lenIs X.a hd
 have hin0:A.inr .i64 (A.sub (A.len d) 1):=by rw [hlen,X.a,Std_inr64,Std_sub];simp only [Int.ofNat_eq_natCast];omega
 have hz0:A.sub (A.len d) 1=Int.ofNat l.length-1:=by rw [hlen,X.a];rfl
 cbv
 refine .inl ⟨hin0,fun _=> ?_⟩
 cbv
 refine X.loopP (fun (y:Nat×Int×D)=>⟨[(3,.int .i64 y.2.1),(1,.pptr [.lst 51 d] 0),(0,.yld 0)],[.loop 36 [15,16] C1 C2 [(3,.box 1 0)] .ready,.box [.lst 40 dA,.mp 2,.mp 3],.map .str 51 y.2.2,.map .str 85 dU]⟩)
  (fun y=>y.1≤l.length∧y.2.1=Int.ofNat y.1-1∧y.2.2=encL (encKV encTE) (addB m (l.drop y.1))) (fun y=>y.1) (l.length,_,dT) ⟨Nat.le_refl _,hz0,by simp only;rw [List.drop_length];exact hT⟩ ?_ ?_
 ·refine ⟨[0,1,2,3],rfl,?_⟩
  (cbv;repeat' apply And.intro);all_goals try first|trivial|rfl|(rw [X.a];rfl)
 rintro ⟨i,z,dm⟩ ⟨hi,hz,hdm⟩
 simp only at hi hz hdm
 match i,hi,hz,hdm with
 |0,hi,hz,hdm=>
  have hc:A.le 0 z=false:=by rw [X.a,hz];rfl
  cbv
  repeat' (first|apply And.intro|exact fun (_:FF)=>by kernel_rfl|(intro h2;first|exact absurd ((hc).symm.trans h2) (by decide)|cbv)|apply Or.inl)
  exact h dm hdm
 |j+1,hi,hz,hdm=>
  have hz:z=Int.ofNat j:=by rw [hz];simp only [Int.ofNat_eq_natCast];omega
  subst hz
  have hc:A.le 0 (Int.ofNat j)=true:=by rw [X.a,Std_le];exact decide_eq_true (Int.natCast_nonneg _)
  have h5:j<l.length:=by omega
  have k1:=teIsAt X.a hd h5
  have hid:A.idx (Int.ofNat j) (A.len d):=by rw [X.a,hd];exact leaf_idx h5
  have hin:A.inr .i64 (A.sub (Int.ofNat j) 1):=by rw [X.a,Std_inr64,Std_sub];simp only [Int.ofNat_eq_natCast];omega
  have hz1:A.sub (Int.ofNat j) 1=Int.ofNat j-1:=by rw [X.a];rfl
  cbv
  repeat' (first|apply And.intro|exact fun (_:FF)=>by kernel_rfl|(intro h2;first|exact absurd ((hc).symm.trans h2) (by decide)|cbv)|apply Or.inl)
  any_goals exact hid
  refine X.round (hy l[j] _ dm _ _ _ _ _ _ _ _ _ _ _ _ _ _ (List.getElem_mem h5) k1 hdm fun r hr=> ?_)
  cbv
  repeat' (first|apply And.intro|exact fun (_:FF)=>by kernel_rfl|(intro h2;first|exact absurd ((hneg1).symm.trans h2) (by decide)|cbv)|apply Or.inl)
  any_goals exact hin
  refine ⟨(j,_,r),⟨by simp only;omega,hz1,?_⟩,by simp only;omega,[0,1,2,3],rfl,?_⟩
  ·simp only;rw [hr,List.drop_eq_getElem_cons h5];rfl
  (cbv;repeat' apply And.intro);all_goals try first|trivial|rfl|(rw [X.a];rfl)
end Go.VC.T07
end

section
namespace Go.VC
theorem names_all {α:Type} {m:List (S×α)} {dft:S×α} {ks:List Int} (hb:∀ j∈ks,0≤j∧j<m.length) (ha:∀ j:Nat,j<m.length→(j:Int)∈ks) (s:S):s∈ks.map (fun j=>(m.getD j.toNat dft).1)↔s∈m.map (·.1):=by
 constructor
 ·intro h
  obtain ⟨j,hj,rfl⟩:=List.mem_map.1 h
  obtain ⟨h0,h1⟩:=hb j hj
  have hl:j.toNat<m.length:=by omega
  refine List.mem_map.2 ⟨m[j.toNat],List.getElem_mem hl,?_⟩
  simp [List.getD,hl]
 ·intro h
  obtain ⟨x,hx,rfl⟩:=List.mem_map.1 h
  obtain ⟨k,hk⟩:=List.getElem?_of_mem hx
  have hl:k<m.length:=(List.getElem?_eq_some_iff.1 hk).1
  refine List.mem_map.2 ⟨(k:Int),ha k hl,?_⟩
  simp [List.getD,hk]
theorem ks_lt {α:Type} {m:List α} {ks:List Int} (hnd:ks.Nodup) (hb:∀ j∈ks,0≤j∧j<m.length) {i:Nat} (hi:i<m.length) (hn:(i:Int)∉ks):ks.length<m.length:=by
 have h1:(ks.map Int.toNat).Nodup:=by
  refine List.pairwise_map.2 (List.Pairwise.imp_of_mem ?_ hnd)
  intro a b ha hb' hab e
  have:=hb a ha;have:=hb b hb'
  exact hab (by omega)
 have h2:(Int.toNat (i:Int)::ks.map Int.toNat).Nodup:=by
  rw [List.nodup_cons]
  refine ⟨fun h=> ?_,h1⟩
  obtain ⟨j,hj,e⟩:=List.mem_map.1 h
  have:=hb j hj
  exact hn (by rw [show (i:Int)=j by omega];exact hj)
 have h3:=nodup_sub_len (m:=List.range m.length) h2 fun x hx=>by
  rw [List.mem_range]
  rcases List.mem_cons.1 hx with rfl|hx
  ·simpa using hi
  ·obtain ⟨j,hj,rfl⟩:=List.mem_map.1 hx
   have:=hb j hj
   omega
 simp at h3;omega
end Go.VC
namespace Go.VC.T07
open Go Go.VC Go.Proofs
def g43r:Cfg:={tt:=tt,n:=36,n0:=4,rnd:=true}
theorem F43 {i:IF} (hi:i.ok) (hsz:∀ x∈i.types,x.lower.size≤1048576∧x.upper.size≤1048576) (hrf:refsSz i≤1048576) {c0:S} {c1 c2 c3 c4:D} {K:PV→List Ob→Prop} (hx:ifIs i c0 c1 c2 c3 c4)
  (h:∀ m mu dA dT dU,TM m i→UM mu i (fun s=>(tyF i s).isSome=true)→dA=encL encIF [i]→dT=encL (encKV encTE) m→dU=encL (encKV enc1) mu→K (.agg [.lst 40 dA,.dmp 51 dT,.dmp 85 dU]) []):
  FC Tryz.prog tt 43 [] [ifPV c0 c1 c2 c3 c4] K:=by
 have htl:i.types.length≤4294967295:=hi.nt
 have hxA:∀ A:Alg,A=Std→A.lit [[.str c0,c1,c2,c3,c4]]=encL encIF [i]:=by
  rintro A rfl
  obtain ⟨rfl,rfl,rfl,rfl,rfl⟩:=hx
  rfl
 refine FC.enterOwn (G:=g43) tt_ok mixed ⟨Tryz.func43,by rfl,rfl⟩ rfl rfl rfl ?_
 intro A C L X
 obtain ⟨dA,hdA⟩:∃ dA,dA=A.lit [[.str c0,c1,c2,c3,c4]]:=⟨_,rfl⟩
 have hdA':dA=encL encIF [i]:=hdA.trans (hxA A X.a)
 cbv
 refine X.call (F80 ?_)
 cbv
 refine X.range rfl ⟨Tryz.func129,by rfl,rfl⟩ rfl [(3,.box 4 0)] ?_ ?_
 ·cbv
 cbv
 refine X.call (F129 (m:=[]) hx.2.1 htl rfl ?_ ?_)
 ·intro x m dT j b0 b1 b2 b3 b4 b5 b6 b7 b8 b9 b10 b11 K' hxm hk hdT hK
  refine YC.enter (G:=g43r) tt_ok mixed rfl rfl rfl rfl rfl ?_
  intro A C L X
  have hrow:[D.str b0,b1,.int b2,.str b3,.str b4,b5,b6,.int b7,.str b8,.str b9,b10,b11]=encTE x:=by
   obtain ⟨rfl,rfl,⟨rfl,rfl,rfl,rfl,rfl⟩,rfl,rfl,rfl,rfl,rfl⟩:=hk
   rw [encTE_eq]
  have q:=hK (A.mset dT (.str b0) [D.str b0,b1,.int b2,.str b3,.str b4,b5,b6,.int b7,.str b8,.str b9,b10,b11]) (by rw [hrow,X.a,hdT,hk.1];exact Std_putV)
  cbv
  exact q
 intro dT hdT
 have hTM:=TM.of i
 have htlen:=addB_len i.types
 obtain ⟨m,hm⟩:∃ m,m=addB [] i.types:=⟨_,rfl⟩
 rw [← hm] at hdT hTM htlen
 clear hm
 have hmm:∀ s,s∈m.map (·.1)↔(tyF i s).isSome=true:=fun s=>by rw [look_mem,hTM.get]
 clear hdA
 cbv
 refine X.loopK (fun (x:List Int×D×D)=>⟨[(24,.it 3),(3,.box 2 0),(2,.box 0 0)],[.box [.lst 40 (.list []),.nilm,.nilm],.map .str 85 x.2.2,.box [.lst 40 (A.lit [[.str c0,c1,c2,c3,c4]]),.dmp 51 dT,.mp 1],.diter 51 dT x.2.1]⟩)
  (fun x=>x.2.1=encJ x.1∧x.1.Nodup∧(∀ j∈x.1,0≤j∧j<m.length)∧∃ mu,x.2.2=encL (encKV enc1) mu∧UM mu i (fun s=>s∈x.1.map (fun j=>(m.getD j.toNat ([],TE.zero)).1))) (fun x=>m.length-x.1.length) ([],.list [],.list []) ⟨rfl,by simp,by simp,[],rfl,by simpa using UM.nil i⟩ ?_ ?_
 ·refine ⟨[2],[],[1,3,4,6],rfl,?_⟩
  (cbv;repeat' apply And.intro);all_goals try first|trivial|rfl|(rw [X.a];rfl)
 rintro ⟨ks,z,dU⟩ ⟨hz,hnd,hb,mu,hdU,hU⟩
 simp only at hz hnd hb hdU hU
 cbv
 refine ⟨fun h1=> ?_,fun j h1=> ?_⟩
 ·have ha:=Std_allSeen (m:=m) (f:=encKV encTE) (l:=ks) (by rw [← hdT,←hz,←X.a];exact h1)
  have hna:=names_all (dft:=([],TE.zero)) hb ha
  have hU2:UM mu i (fun s=>(tyF i s).isSome=true):=⟨hU.nd,fun s=>by rw [hU.mem,hna,hmm],hU.get⟩
  have q:=h m mu (A.lit [[.str c0,c1,c2,c3,c4]]) dT dU hTM hU2 (hxA A X.a) hdT hdU
  cbv
  exact q
 ·obtain ⟨u0,u1,u2⟩:0≤j∧j<m.length∧j∉ks:=Std_unseen (by rw [← hdT,←hz,←X.a];exact h1)
  have hsee:A.see z j=encJ (ks++[j]):=by rw [X.a,hz,Std_see]
  have hlast:A.last (A.see z j)=j:=by rw [hsee,X.a,Std_last]
  obtain ⟨k,rfl⟩:∃ k:Nat,j=Int.ofNat k:=⟨j.toNat,by simp only [Int.ofNat_eq_natCast];omega⟩
  have hk:k<m.length:=by simp only [Int.ofNat_eq_natCast] at u1;omega
  have hkey:A.asStr (A.cell dT (A.last (A.see z (Int.ofNat k))) 0)=(m.getD k ([],TE.zero)).1:=by
   rw [hlast,cellAt X.a hdT hk,X.a]
   simp [encKV,Std_str,hk]
  have g1:A.idx 0 (A.len (A.see z (Int.ofNat k))):=by rw [hsee,X.a,encJ_len,Std_idx];simp
  have g2:A.idx (A.last (A.see z (Int.ofNat k))) (A.len dT):=by rw [hlast,X.a,hdT];exact leaf_idx hk
  have hlt:=ks_lt hnd hb hk u2
  have hput:∀ r kk,r=encL encKB kk→A.mset dU (.str (A.asStr (A.cell dT (A.last (A.see z (Int.ofNat k))) 0))) [r]=encL (encKV enc1) (putV (m.getD k ([],TE.zero)).1 (encL encKB kk) mu):=by
   intro r kk hr;rw [hkey,X.a,hdU,hr];exact Std_putV (f:=enc1)
  cbv
  repeat' (first|apply And.intro|exact fun (_:FF)=>by kernel_rfl|(intro h2;cbv)|apply Or.inl)
  any_goals first|exact g1|exact g2
  refine X.call (FC.g3 (c:=.undef) (F81 hi hsz hrf hTM (hxA A X.a) hdT fun kk r hr hKS=> ?_))
  have hKS:KS kk (Rch i (A.asStr (A.cell dT (A.last (A.see z (Int.ofNat k))) 0))):=hKS
  rw [hkey] at hKS
  have hU2:=hU.put hKS (p':=fun s=>s∈(ks++[Int.ofNat k]).map (fun j=>(m.getD j.toNat ([],TE.zero)).1)) (fun x=>by
   rw [List.map_append,List.mem_append];simp only [List.map_cons,List.map_nil,List.mem_singleton,Int.ofNat_eq_natCast,Int.toNat_natCast];exact Or.comm)
  cbv
  repeat' (first|apply And.intro|exact fun (_:FF)=>by kernel_rfl|(intro h2;cbv)|apply Or.inl)
  refine ⟨(ks++[Int.ofNat k],A.see z (Int.ofNat k),_),⟨hsee,?_,?_,_,hput r kk hr,hU2⟩,?_,[],[],[0,1,2,3],rfl,?_⟩
  ·rw [List.nodup_append];exact ⟨hnd,by simp,fun a ha b hb=>by simp at hb;subst hb;exact fun e=>u2 (show (k:Int)∈ks from e▸ha)⟩
  ·intro j hj
   rcases List.mem_append.1 hj with hj|hj
   ·exact hb j hj
   ·simp only [List.mem_singleton] at hj;subst hj;exact ⟨u0,u1⟩
  ·simp only [List.length_append,List.length_singleton];omega
  (cbv;repeat' apply And.intro);all_goals try first|trivial|rfl|(rw [X.a];rfl)
end Go.VC.T07
end

section
namespace Go.VC
def cmpL:List S→List S→Int
 |[],[]=>0
 |[],_::_=> -1
 |_::_,[]=>1
 |a::x,b::y=>if cmpS a b≠0 then cmpS a b else cmpL x y
def ltL:List S→List S→Bool
 |[],[]=>false
 |[],_::_=>true
 |_::_,[]=>false
 |a::x,b::y=>slt a b||(a==b&&ltL x y)
theorem cmpL_lt0:∀ (x y:List S),cmpL x y<0↔ltL x y=true
 |[],[]=>by simp [cmpL,ltL]
 |[],_::_=>by simp [cmpL,ltL]
 |_::_,[]=>by simp [cmpL,ltL]
 |a::x,b::y=>by
  have ih:=cmpL_lt0 x y
  rw [cmpL,ltL]
  by_cases h:a=b
  ·rw [if_neg (by simp [cmpS_eq.2 h]),ih];subst h;simp [slt_irrefl]
  ·rw [if_pos (fun e=>h (cmpS_eq.1 e))]
   have h2:(a==b)=false:=by simpa using h
   rw [h2,Bool.false_and,Bool.or_false]
   exact cmpS_lt
theorem cmpL_lt (x y:List S):decide (cmpL x y<0)=ltL x y:=by
 cases h:ltL x y with
 |true=>exact decide_eq_true ((cmpL_lt0 x y).2 h)
 |false=>exact decide_eq_false (fun e=>by rw [(cmpL_lt0 x y).1 e] at h;cases h)
theorem ltL_irrefl:∀ x:List S,ltL x x=false
 |[]=>rfl
 |a::x=>by simp [ltL,slt_irrefl,ltL_irrefl x]
theorem ltL_trans:∀ (x y z:List S),ltL x y=true→ltL y z=true→ltL x z=true
 |[],[],z,h,_=>by simp [ltL] at h
 |[],b::y,[],_,k=>by simp [ltL] at k
 |[],b::y,c::z,_,_=>rfl
 |a::x,[],z,h,_=>by simp [ltL] at h
 |a::x,b::y,[],_,k=>by simp [ltL] at k
 |a::x,b::y,c::z,h,k=>by
  simp only [ltL,Bool.or_eq_true,Bool.and_eq_true,beq_iff_eq] at*
  rcases h with h|⟨rfl,h⟩<;>rcases k with k|⟨rfl,k⟩
  ·exact .inl (slt_trans h k)
  ·exact .inl h
  ·exact .inl k
  ·exact .inr ⟨rfl,ltL_trans x y z h k⟩
theorem ltL_tri:∀ (x y:List S),ltL x y=false→ltL y x=false→x=y
 |[],[],_,_=>rfl
 |[],_::_,h,_=>by simp [ltL] at h
 |_::_,[],_,h=>by simp [ltL] at h
 |a::x,b::y,h,k=>by
  simp only [ltL,Bool.or_eq_false_iff] at*
  have e:=slt_tri h.1 k.1
  subst e
  simp at h k
  rw [ltL_tri x y h.2 k.2]
theorem ltL_ntrans (x y z:List S) (h:ltL x y=false) (k:ltL y z=false):ltL x z=false:=by
 cases hb:ltL x z with
 |false=>rfl
 |true=>
  exfalso
  cases h1:ltL y x with
  |true=>rw [ltL_trans y x z h1 hb] at k;cases k
  |false=>have:=ltL_tri x y h h1;subst this;rw [hb] at k;cases k
def encLS (l:List S):List D:=[encL encS l]
end Go.VC
namespace Go.VC.T07
open Go Go.VC Go.Proofs Go.Sort
theorem F46 {x y:List S} {dx dy:D} (hx:dx=encL encS x) (hy:dy=encL encS y) (hxl:x.length≤4294967295) (hyl:y.length≤4294967295) {K:PV→List Ob→Prop} (h:∀ r,r=cmpL x y→K (.int .i64 r) []):
  FC Tryz.prog tt 46 [] [.lst 9 dx,.lst 9 dy] K:=by
 refine FC.enter (G:=g46) tt_ok mixed ⟨Tryz.func46,by rfl,rfl⟩ rfl rfl rfl ?_
 intro A C L X
 have hneg:=negA X.a
 have heq:=eqA X.a
 obtain ⟨n_dx,hn_dx,hlen_dx⟩:=lenOf hx
 have ly:A.len dy=Int.ofNat y.length:=lenIs X.a hy
 have lx:A.len dx=Int.ofNat x.length:=lenIs X.a hx
 have hle:∀ i:Nat,A.le (A.len dy) (Int.ofNat i)=decide (y.length≤i):=fun i=>by rw [ly,X.a,Std_le];exact decide_eq_decide.2 (by simp only [Int.ofNat_eq_natCast];omega)
 have hll:A.lt (A.len dx) (A.len dy)=decide (x.length<y.length):=by rw [lx,ly,X.a,Std_lt];exact decide_eq_decide.2 (by simp only [Int.ofNat_eq_natCast];omega)
 cbv
 refine X.loop (fun (i:Nat)=>⟨[(11,.int .i64 i),(10,.int .i64 (A.len dx)),(9,.lst 9 dx),(1,.lst 9 dy),(0,.lst 9 dx)],[]⟩)
  (fun i=>i≤n_dx∧i≤y.length∧cmpL x y=cmpL (x.drop i) (y.drop i)) (fun i=>n_dx-i) 0 ⟨Nat.zero_le _,Nat.zero_le _,rfl⟩ ?_ ?_
 ·(cbv;repeat' apply And.intro);all_goals try first|trivial|rfl|(rw [X.a];rfl)
 rintro i ⟨hi,hiy,he⟩
 have hle:=hle i
 cbv
 refine ⟨fun h1=> ?_,fun h1=> ?_⟩
 ·have h5:i<x.length:=by obtain rfl:=X.a;simp only [hlen_dx,SD,bNot] at h1;omega
  have k1:=strAt X.a hx h5
  have hid:A.idx (Int.ofNat i) (A.len dx):=by rw [X.a,hx];exact leaf_idx h5
  have hin:A.inr .i64 (A.add (Int.ofNat i) 1):=by rw [X.a];exact leaf_inc h5 (by omega)
  rw [List.drop_eq_getElem_cons h5] at he
  by_cases h6:i<y.length
  ·have k2:=strAt X.a hy h6
   have hid2:A.idx (Int.ofNat i) (A.len dy):=by rw [X.a,hy];exact leaf_idx h6
   have hc:A.le (A.len dy) (Int.ofNat i)=false:=by rw [hle];exact decide_eq_false (by omega)
   rw [List.drop_eq_getElem_cons h6,cmpL] at he
   clear h1
   cbv
   repeat' (first|apply And.intro|exact fun (_:FF)=>by kernel_rfl|(intro h2;first|exact absurd ((hc).symm.trans h2) (by decide)|cbv)|apply Or.inl|(refine X.call (F85 fun r hr=> ?_);cbv))
   any_goals first|exact hid|exact hid2|exact hin
   ·have hr:r=cmpS (A.asStr (A.cell dx (Int.ofNat i) 0)) (A.asStr (A.cell dy (Int.ofNat i) 0)):=hr
    rw [k1,k2] at hr
    have h2:A.not (A.eq r 0)=true:=by assumption
    rw [hneg,heq] at h2
    exact h _ (by rw [he,←hr,if_pos (by simpa using h2)])
   ·have hr:r=cmpS (A.asStr (A.cell dx (Int.ofNat i) 0)) (A.asStr (A.cell dy (Int.ofNat i) 0)):=hr
    rw [k1,k2] at hr
    have h2:A.not (A.eq r 0)=false:=by assumption
    rw [hneg,heq] at h2
    rw [← hr,if_neg (by simpa using h2)] at he
    refine ⟨i+1,⟨by omega,by omega,he⟩,by omega,?_⟩
    (cbv;repeat' apply And.intro);all_goals try first|trivial|rfl|(rw [X.a];rfl)
  ·have hc:A.le (A.len dy) (Int.ofNat i)=true:=by rw [hle];exact decide_eq_true (by omega)
   rw [List.drop_eq_nil_of_le (by omega:y.length≤i),cmpL] at he
   clear h1
   cbv
   repeat' (first|apply And.intro|exact fun (_:FF)=>by kernel_rfl|(intro h2;first|exact absurd ((hc).symm.trans h2) (by decide)|cbv)|apply Or.inl)
   any_goals exact hid
   exact h _ he.symm
 ·have h5:i=n_dx:=by obtain rfl:=X.a;simp only [hlen_dx,SD,bNot] at h1;omega
  rw [List.drop_eq_nil_of_le (by omega:x.length≤i)] at he
  by_cases h6:x.length<y.length
  ·have hc:A.lt (A.len dx) (A.len dy)=true:=by rw [hll];exact decide_eq_true h6
   rw [List.drop_eq_getElem_cons (by omega:i<y.length),cmpL] at he
   cbv
   repeat' (first|apply And.intro|exact fun (_:FF)=>by kernel_rfl|(intro h2;first|exact absurd ((hc).symm.trans h2) (by decide)|cbv)|apply Or.inl)
   exact h _ he.symm
  ·have hc:A.lt (A.len dx) (A.len dy)=false:=by rw [hll];exact decide_eq_false h6
   rw [List.drop_eq_nil_of_le (by omega:y.length≤i),cmpL] at he
   cbv
   repeat' (first|apply And.intro|exact fun (_:FF)=>by kernel_rfl|(intro h2;first|exact absurd ((hc).symm.trans h2) (by decide)|cbv)|apply Or.inl)
   exact h _ he.symm
end Go.VC.T07
end

section
namespace Go.VC
open Go.Sort
theorem pc_sortWorld1 {α:Type} [Inhabited α] {enc:α→Value} {w:World} {blk off m:Nat} {dk:Array α} {os:Array Obj} {ad:Addr} {v:Value} (h:pc w ad=some v) (hne:ad.block≠blk):pc (Go.Proofs.sortWorld enc w blk off m dk os) ad=some v:=by
 rw [← h]
 have hb:=pc_lt h
 refine pc_same ?_
 simp only [Go.Proofs.sortWorld,putRow,grow,mapBlock,Sort.ahead]
 rw [Array.getElem?_append_left (by simp;exact hb),Array.getElem?_modify,if_neg (Ne.symm hne)]
end Go.VC
namespace Go.VC.T07
open Go Go.VC Go.Proofs Go.Sort
theorem cks24:cksOf tt 24=[.slice 9]:=by kernel_rfl
def SlN (Pp:Per) (n:Nat):Type:={ x:Value×List S // RD tt Pp (.slice 9) x.1 (encL encS x.2)∧x.2.length≤n }
instance (Pp:Per) (n:Nat):Inhabited (SlN Pp n):=⟨⟨(.slice none 0 0,[]),.slnil _,Nat.zero_le _⟩⟩
def encN {Pp:Per} {n:Nat} (x:SlN Pp n):Value:=x.1.1
def cfN {Pp:Per} {n:Nat} (x y:SlN Pp n):Int:=cmpL x.1.2 y.1.2
theorem swoN {Pp:Per} {n:Nat}:SWO (ltOf (cfN (Pp:=Pp) (n:=n))) where
 irrefl x:=by rw [show ltOf cfN x x=decide (cmpL x.1.2 x.1.2<0) from rfl,cmpL_lt];exact ltL_irrefl _
 trans x y z h1 h2:=by
  rw [show ltOf cfN x y=decide (cmpL x.1.2 y.1.2<0) from rfl,cmpL_lt] at h1
  rw [show ltOf cfN y z=decide (cmpL y.1.2 z.1.2<0) from rfl,cmpL_lt] at h2
  rw [show ltOf cfN x z=decide (cmpL x.1.2 z.1.2<0) from rfl,cmpL_lt];exact ltL_trans _ _ _ h1 h2
 ntrans x y z h1 h2:=by
  rw [show ltOf cfN x y=decide (cmpL x.1.2 y.1.2<0) from rfl,cmpL_lt] at h1
  rw [show ltOf cfN y z=decide (cmpL y.1.2 z.1.2<0) from rfl,cmpL_lt] at h2
  rw [show ltOf cfN x z=decide (cmpL x.1.2 z.1.2<0) from rfl,cmpL_lt];exact ltL_ntrans _ _ _ h1 h2
theorem encN_one {Pp:Per} {n:Nat}:OneCell (encN (Pp:=Pp) (n:=n)):=by
 rintro ⟨⟨v,l⟩,h,_⟩
 have h:RD tt Pp (.slice 9) v (encL encS l):=h
 show v.oneCell'=true
 generalize encL encS l=d at h
 cases h<;>rfl
theorem rdN_det {Pp:Per} (hf:∀ ad u u',Pp ad u→Pp ad u'→u=u') {v:Value} {d d':D} (h:RD tt Pp (.slice 9) v d) (h':RD tt Pp (.slice 9) v d'):d=d':=by
 have c9:cksOf tt 9=[.str]:=by kernel_rfl
 have key:∀ {b o len cap:Nat} {rows rows':List (List D)},RD tt Pp (.slice 9) (.slice (some ⟨b,o,none⟩) len cap) (.list rows)→RD tt Pp (.slice 9) (.slice (some ⟨b,o,none⟩) len cap) (.list rows')→len≠0→rows=rows':=by
  intro b o len cap rows rows' h h' hl0
  cases h with
  |sl0=>exact absurd rfl hl0
  |sl _ _ _ _ _ _ vf hl hc hrow hpi hrd=>
  cases h' with
  |sl0=>exact absurd rfl hl0
  |sl _ _ _ _ _ _ vf' hl' hc' hrow' hpi' hrd'=>
  apply List.ext_getElem (by omega)
  intro i h1 h2
  have a1:=hrow i _ (List.getElem?_eq_getElem h1)
  have a2:=hrow' i _ (List.getElem?_eq_getElem h2)
  rw [c9] at a1 a2 hpi hpi'
  have e:=hf _ _ _ (hpi i 0 (by omega) (by simp)) (hpi' i 0 (by omega) (by simp))
  match hr1:rows[i],a1,hr2:rows'[i],a2 with
  |[x],_,[y],_=>
  have b1:=hrd i 0 [x] x .str (by rw [← hr1];exact List.getElem?_eq_getElem h1) rfl (by rw [c9];rfl)
  have b2:=hrd' i 0 [y] y .str (by rw [← hr2];exact List.getElem?_eq_getElem h2) rfl (by rw [c9];rfl)
  rw [← e] at b2
  generalize vf i 0=u at b1 b2
  cases b1;cases b2;rfl
 have nil1:∀ {a:Option Addr} {cap:Nat} {d:D},RD tt Pp (.slice 9) (.slice a 0 cap) d→d= .list []:=by
  intro a cap d h
  cases h with
  |slnil=>rfl
  |sl0=>rfl
  |sl _ b o len cap rows vf hl=>rw [List.eq_nil_of_length_eq_zero hl]
 cases h with
 |slnil=>exact (nil1 h').symm
 |sl0=>exact (nil1 h').symm
 |sl _ b o len cap rows vf hl hc hrow hpi hrd=>
  by_cases h0:len=0
  ·subst h0
   rw [nil1 h',List.eq_nil_of_length_eq_zero hl]
  ·have h0':∃ rows',d'= .list rows':=by cases h'<;>exact ⟨_,rfl⟩
   obtain ⟨rows',rfl⟩:=h0'
   rw [key (.sl _ b o len cap rows vf hl hc hrow hpi hrd) h' h0]
def ltN (x y:List D):Bool:=ltL ((rowsD (x.getD 0 .nil)).map fun r=>Std.asStr (r.getD 0 .nil)) ((rowsD (y.getD 0 .nil)).map fun r=>Std.asStr (r.getD 0 .nil))
theorem rows_strs (l:List S):(rowsD (encL encS l)).map (fun r=>Std.asStr (r.getD 0 .nil))=l:=by
 show (l.map encS).map (fun r=>Std.asStr (r.getD 0 .nil))=l
 rw [List.map_map]
 exact (List.map_congr_left fun a _=>rfl).trans (List.map_id l)
theorem F45 {ls:List (List S)} {d:D} {K:PV→List Ob→Prop} (hd:d=encL encLS ls) (hn:ls.length≤4294967295) (hll:∀ l∈ls,l.length≤4294967295)
  (h:∀ ms r,ms.Perm ls→ms.Pairwise (fun a b=>ltL b a=false)→r=encL encLS ms→K (.tup []) [.row 24 r true]):FC Tryz.prog tt 45 [.row 24 d true] [.row 24 0,.clos 46 []] K:=by
 subst hd
 intro E Pp w vals hw hv
 have rel1:∀ {us:List Value} {row:List D},row∈ls.map encLS→RelV tt Pp 24 us row→∃ x:SlN Pp 4294967295,[encN x]=us∧row=[encL encS x.1.2]:=by
  intro us row hm hr
  obtain ⟨l,hl,rfl⟩:=List.mem_map.1 hm
  obtain ⟨h1,h2,h3⟩:=hr
  rw [cks24] at h1 h2 h3
  match us,h1 with
  |[u],_=>
  obtain ⟨v,e0,q0⟩:=h3 0 (encL encS l) _ rfl rfl
  simp at e0;subst e0
  exact ⟨⟨(u,l),q0,hll l hl⟩,rfl,rfl⟩
 have hfun:∀ ad u u',Pp ad u→Pp ad u'→u=u':=fun ad u u' h1 h2=>by
  have a:=hw.pi _ _ h1;have b:=hw.pi _ _ h2;rw [a] at b;cases b;rfl
 have det:∀ (x:SlN Pp 4294967295) (row:List D),RelV tt Pp 24 [encN x] row→row=[encL encS x.1.2]:=by
  intro x row hr
  obtain ⟨h1,h2,h3⟩:=hr
  rw [cks24] at h1 h2 h3
  match row,h2 with
  |[dr],_=>
  obtain ⟨v,e0,q0⟩:=h3 0 dr _ rfl rfl
  simp at e0;subst e0
  rw [rdN_det hfun q0 x.2.1]
 refine sort_core (e:=24) (fun x:SlN Pp 4294967295=>[encN x]) cfN ltN [.clos 46 []] [.func (.func 46) #[] #[]] (ex_clos rfl) (fun x=>by rw [cks24];rfl) ?_ ?_ (enters_of Tryz.func45 (by kernel_rfl) rfl) (ls.map encLS) (by simp;omega) ?_ ?_ ?_ hw hv
 ·rw [cks24]
  intro blk off cap dk hH hblk hsz hP
  have eg:∀ args w,(callFunc 46 args).run Tryz.prog w= .ok (.enter 46 args) w:=enters_of Tryz.func46 (by kernel_rfl) rfl
  have hcmp:CmpLays1 Tryz.prog 46 #[] (encN (Pp:=Pp) (n:=4294967295)) cfN blk off dk.size w:=by
   intro m os dk' _ x y
   refine cmp_calls (Pp:=Pp) (r:=cfN x y) ⟨Tryz.func46,by rfl,rfl⟩ (F46 (x:=x.1.2) (y:=y.1.2) rfl rfl x.2.2 y.2.2 fun r hr=>by rw [hr];rfl) (fun ad v hp=>pc_sortWorld1 (hw.pi ad v hp) (hP ad v hp)) hw.gl ?_
   exact .cons _ _ _ _ (.lst _ _ _ x.2.1) (.cons _ _ _ _ (.lst _ _ _ y.2.1) .nil)
  refine (Tryz.slices_SortFunc encN encN_one cfN swoN 46 #[] blk off cap dk w eg hcmp (holds_one hH) hblk hsz).mono ?_
  rintro e w' ⟨rfl,d',n,os,h1,h2,rfl⟩
  refine ⟨rfl,d',n,os,h1,h2,?_⟩
  unfold sortWorldK putRowK
  have:=putRow_one (encN (Pp:=Pp) (n:=4294967295)) (Sort.ahead w n) blk off d'
  unfold sortWorld
  rw [this];rfl
 ·exact fun p cap w=>Tryz.slices_SortFunc_none (α:=Nat) p cap _ w
 ·intro us row hm hr
  obtain ⟨x,hx,_⟩:=rel1 hm hr
  exact ⟨x,hx⟩
 ·intro x y rx ry h1 h2
  rw [det x rx h1,det y ry h2]
  show decide (cmpL x.1.2 y.1.2<0)=ltL ((rowsD (encL encS x.1.2)).map fun r=>Std.asStr (r.getD 0 .nil)) ((rowsD (encL encS y.1.2)).map fun r=>Std.asStr (r.getD 0 .nil))
  rw [rows_strs,rows_strs,cmpL_lt]
 ·intro rows' hp hs
  obtain ⟨ms,h1,rfl⟩:=perm_map hp
  refine h ms _ h1 ?_ rfl
  rw [List.pairwise_iff_getElem]
  intro i j hi hj hij
  have:=hs i j (by simpa using hi) (by simpa using hj) hij
  simp only [List.getElem_map] at this
  have e:ltN (encLS ms[j]) (encLS ms[i])=ltL ms[j] ms[i]:=by
   show ltL ((rowsD (encL encS ms[j])).map fun r=>Std.asStr (r.getD 0 .nil)) ((rowsD (encL encS ms[i])).map fun r=>Std.asStr (r.getD 0 .nil))=_
   rw [rows_strs,rows_strs]
  rw [← e];exact this
end Go.VC.T07
end

section
namespace Go.VC
structure GM (i:IF) (n:S) (l:List S):Prop where
 mem:∀ s,s∈l↔Rch i n s∧Rch i s n
 nd:l.Nodup
 srt:l.Pairwise fun a b=>slt b a=false
theorem Std_getKS {m:List (S×Bool)} {p:S→Prop} (h:KS m p) (k:S):Std.asBool (Std.mget (encL encKB m) (.str k) 0)=true↔p k:=by
 have h2:KT m (m.map (·.1)):=⟨h.nd,fun s=>Iff.rfl,h.tr⟩
 rw [Std_getK h2 k,decide_eq_true_iff];exact h.mem k
theorem UM.at {mu:List (S×D)} {i:IF} (h:UM mu i (fun s=>(tyF i s).isSome=true)) {dU:D} (hU:dU=encL (encKV enc1) mu) (s:S):
  ∃ k,KS k (Rch i s)∧rowsD (Std.mget dU (.str s) 0)=k.map encKB∧∀ n,Std.asBool (Std.mget (Std.mget dU (.str s) 0) (.str n) 0)=true↔Rch i s n:=by
 subst hU
 cases hs:(tyF i s).isSome with
 |true=>
  have h1:=(h.mem s).2 hs
  rw [look_mem] at h1
  obtain ⟨q,hq⟩:=Option.isSome_iff_exists.1 h1
  obtain ⟨k,rfl,hk⟩:=h.get s q hq
  rw [Std_getV (f:=enc1) hq 0]
  exact ⟨k,hk,rfl,fun n=>Std_getKS hk n⟩
 |false=>
  have h1:lookV mu s=none:=by
   have:¬s∈mu.map (·.1):=fun e=>by have:=(h.mem s).1 e;rw [hs] at this;cases this
   rw [look_mem] at this;simpa using this
  rw [Std_getN h1]
  have hno:∀ x,¬Rch i s x:=by
   intro x hx
   have hd:∀ e,¬dirP i s e:=by
    rintro e ⟨u,hu,_⟩
    have hn:tyF i s=none:=by simpa using hs
    rw [usesOf,hn,Option.getD_none,zeroT_uses] at hu
    simp at hu
   induction hx with
   |one h=>exact hd _ h
   |more _ _ ih=>exact ih
  refine ⟨[],⟨by simp,fun x=> ?_,by simp⟩,rfl,fun n=> ?_⟩
  ·simp only [List.map_nil,List.not_mem_nil,false_iff];exact hno x
  ·constructor
   ·intro e;exact absurd (show (false=true) from e) (by decide)
   ·intro e;exact absurd e (hno n)
end Go.VC
namespace Go.VC.T07
open Go Go.VC Go.Proofs
theorem FC.g1 {P:Program} {tt:TypeId→Option TI} {f:FuncId} {objs:List Ob} {a b c:PV} {rest:List PV} {K:PV→List Ob→Prop} (h:FC P tt f objs (.agg [.undef,.undef,c]::rest) K):FC P tt f objs (.agg [a,b,c]::rest) K:=by
 intro E Pp w vals hw hv
 refine h E Pp w vals hw ?_
 cases hv with
 |cons v _ vs _ h1 h2=>
  refine .cons _ _ _ _ ?_ h2
  cases h1 with
  |agg us _ hl=>
   cases hl with|cons _ _ _ _ ha hl=>cases hl with|cons _ _ _ _ hb hl=>cases hl with|cons _ _ _ _ hc hl=>
   cases hl
   exact .agg _ _ (.cons _ _ _ _ (.undef _) (.cons _ _ _ _ (.undef _) (.cons _ _ _ _ hc .nil)))
def g44a:Cfg:={tt:=tt,n:=29,own:=[5],keep:=[82]}
theorem F44 {i:IF} (htl:i.types.length≤4294967295) {mu:List (S×D)} (hU:UM mu i (fun s=>(tyF i s).isSome=true)) {dU:D} (hdU:dU=encL (encKV enc1) mu) {n:S} {K:PV→List Ob→Prop}
  (h:∀ l r,r=encL encS l→GM i n l→K (.row 9 0) [.row 9 r true]):
  FC Tryz.prog tt 44 [] [.agg [.undef,.undef,.dmp 85 dU],.str n] K:=by
 refine FC.enterOwn (G:=g44a) tt_ok mixed ⟨Tryz.func44,by rfl,rfl⟩ rfl rfl rfl ?_
 intro A C L X
 obtain ⟨k,hk,hrows,_⟩:=hU.at hdU n
 obtain ⟨dq,hdq⟩:∃ dq,dq=A.mget dU (.str n) 0:=⟨_,rfl⟩
 have hrows:rowsD dq=k.map encKB:=by rw [hdq,X.a];exact hrows
 have hkl:k.length≤4294967295:=by
  have h1:=nodup_types (i:=i) hk.nd fun s hs=>((hk.mem s).1 hs).has
  rw [List.length_map] at h1;exact Nat.le_trans h1 htl
 have hall:∀ ks,A.allSeen dq (encJ ks)→∀ j:Nat,j<k.length→(j:Int)∈ks:=by
  intro ks h1 j hj
  rw [X.a] at h1
  have:=h1 j (by rw [hrows,List.length_map];exact hj)
  simp only [encJ,encL,rowsD,List.mem_map] at this
  obtain ⟨x,hx,he⟩:=this
  simp at he;subst he;exact hx
 have huns:∀ ks j,A.unseen dq (encJ ks) j→0≤j∧j<k.length∧j∉ks:=by
  intro ks j h1
  rw [X.a] at h1
  obtain ⟨h1,h2,h3⟩:=h1
  rw [hrows,List.length_map] at h2
  refine ⟨h1,h2,fun hj=>h3 ?_⟩
  simp only [encJ,encL,rowsD]
  exact List.mem_map.2 ⟨j,hj,rfl⟩
 have hlenq:A.len dq=Int.ofNat k.length:=by rw [X.a];show ((rowsD dq).length:Int)=_;rw [hrows,List.length_map];rfl
 have hcell:∀ j (hj:j<k.length),A.asStr (A.cell dq (Int.ofNat j) 0)=k[j].1:=by
  intro j hj
  rw [X.a]
  show Std.asStr ((((rowsD dq).getD (Int.ofNat j).toNat []).getD 0 .nil))=_
  rw [hrows]
  simp [List.getD,hj,encKB,Std_str]
 have hback:∀ s,A.asBool (A.mget (A.mget dU (.str s) 0) (.str n) 0)=true↔Rch i s n:=by
  intro s
  obtain ⟨_,_,_,h3⟩:=hU.at hdU s
  rw [X.a];exact h3 n
 clear hU hdU
 cbv
 refine X.loopP (fun (x:List Int×D×D)=>⟨[(11,.it 2),(5,.row 9 1),(2,.box 0 0),(1,.str n)],[.box [.undef,.undef,.dmp 85 dU],.row 9 x.2.2 true,.diter 4 (A.mget dU (.str n) 0) x.2.1]⟩)
  (fun x=>x.2.1=encJ x.1∧x.1.Nodup∧(∀ j∈x.1,0≤j∧j<k.length)∧∃ l,x.2.2=encL encS l∧l.Nodup∧∀ s,s∈l↔s∈x.1.map (fun j=>(k.getD j.toNat ([],true)).1)∧Rch i s n) (fun x=>k.length-x.1.length) ([],.list [],.list []) ⟨rfl,by simp,by simp,[],rfl,by simp,by simp⟩ ?_ ?_
 ·refine ⟨[0,1,2],rfl,?_⟩
  (cbv;repeat' apply And.intro);all_goals try first|trivial|rfl|(rw [X.a];rfl)
 rintro ⟨ks,z,r⟩ ⟨hz,hnd,hb,l,hr,hln,hlm⟩
 simp only at hz hnd hb hr hlm
 rw [← hdq]
 cbv
 refine ⟨fun h1=> ?_,fun j h1=> ?_⟩
 ·have ha:=hall ks (by rw [← hz];exact h1)
  have hna:=names_all (dft:=([],true)) hb ha
  have hlen2:l.length<4294967296:=by
   have h1:=nodup_sub_len (m:=k.map (·.1)) hln fun s hs=>(hna s).1 ((hlm s).1 hs).1
   rw [List.length_map] at h1;exact Nat.lt_of_le_of_lt (Nat.le_trans h1 hkl) (by decide)
  cbv
  refine X.call (F82 hr hlen2 fun l2 r2 hp hs hr2=> ?_)
  cbv
  refine h l2 r2 hr2 ⟨fun s=> ?_,hp.nodup_iff.2 hln,hs⟩
  rw [hp.mem_iff,hlm,hna,hk.mem]
 ·obtain ⟨u0,u1,u2⟩:=huns ks j (by rw [← hz];exact h1)
  have hsee:A.see z j=encJ (ks++[j]):=by rw [X.a,hz,Std_see]
  have hlast:A.last (A.see z j)=j:=by rw [hsee,X.a,Std_last]
  obtain ⟨q,rfl⟩:∃ q:Nat,j=Int.ofNat q:=⟨j.toNat,by simp only [Int.ofNat_eq_natCast];omega⟩
  have hq:q<k.length:=Int.ofNat_lt.1 u1
  have hkey:A.asStr (A.cell dq (A.last (A.see z (Int.ofNat q))) 0)=k[q].1:=by rw [hlast];exact hcell q hq
  have hkq:(k.getD q ([],true)).1=k[q].1:=by simp [List.getD,hq]
  have g1:A.idx 0 (A.len (A.see z (Int.ofNat q))):=by rw [hsee,X.a,encJ_len,Std_idx];simp
  have g2:A.idx (A.last (A.see z (Int.ofNat q))) (A.len dq):=by rw [hlast,hlenq,X.a];exact ⟨Int.natCast_nonneg _,by simp only [Int.ofNat_eq_natCast];omega⟩
  have hlt:=ks_lt hnd hb hq u2
  have hnotl:k[q].1∉l:=by
   intro e
   have:=((hlm _).1 e).1
   obtain ⟨j,hj,e2⟩:=List.mem_map.1 this
   obtain ⟨b0,b1⟩:=hb j hj
   have hjl:j.toNat<k.length:=(Int.toNat_lt b0).2 b1
   have e3:k[j.toNat].1=k[q].1:=by rw [← e2];simp [List.getD,hjl]
   have hnd2:=List.pairwise_iff_getElem.1 hk.nd
   have hne:j.toNat≠q:=fun e=>u2 (by rw [show (Int.ofNat q)=j by simp only [Int.ofNat_eq_natCast];omega];exact hj)
   rcases Nat.lt_or_gt_of_ne hne with h|h
   ·have:=hnd2 j.toNat q (by simpa using hjl) (by simpa using hq) h
    simp at this;exact this e3
   ·have:=hnd2 q j.toNat (by simpa using hq) (by simpa using hjl) h
    simp at this;exact this e3.symm
  have hbk:A.asBool (A.mget (A.mget dU (.str (A.asStr (A.cell dq (A.last (A.see z (Int.ofNat q))) 0))) 0) (.str n) 0)=true↔Rch i k[q].1 n:=by rw [hkey];exact hback _
  have hlen2:l.length≤4294967294:=by
   have h1:=nodup_sub_len (l:=k[q].1::l) (m:=k.map (·.1)) (List.nodup_cons.2 ⟨hnotl,hln⟩) fun s hs=>by
    rcases List.mem_cons.1 hs with rfl|hs
    ·exact List.mem_map.2 ⟨_,List.getElem_mem hq,rfl⟩
    ·obtain ⟨j,hj,e2⟩:=List.mem_map.1 ((hlm s).1 hs).1
     obtain ⟨b0,b1⟩:=hb j hj
     have hjl:j.toNat<k.length:=(Int.toNat_lt b0).2 b1
     exact List.mem_map.2 ⟨k[j.toNat],List.getElem_mem hjl,by rw [← e2];simp [List.getD,hjl]⟩
   rw [List.length_map,List.length_cons] at h1;exact Nat.le_of_succ_le_succ (Nat.le_trans h1 hkl)
  have hbn:A.bnd (A.add (A.len r) (A.len (A.lit [[.str (A.asStr (A.cell dq (A.last (A.see z (Int.ofNat q))) 0))]]))) 4294967296:=by
   rw [X.a,hr];simp only [SD,bNot,List.length_map];omega
  have happ:A.app r (A.lit [[.str (A.asStr (A.cell dq (A.last (A.see z (Int.ofNat q))) 0))]])=encL encS (l++[k[q].1]):=by
   rw [hkey,X.a,hr];exact Std_app (k:=[k[q].1])
  have hnd3:(ks++[Int.ofNat q]).Nodup:=by rw [List.nodup_append];exact ⟨hnd,by simp,fun a ha b hb=>by simp at hb;subst hb;exact fun e=>u2 (show (q:Int)∈ks from e▸ha)⟩
  have hb3:∀ j∈ks++[Int.ofNat q],0≤j∧j<k.length:=by
   intro j hj
   rcases List.mem_append.1 hj with hj|hj
   ·exact hb j hj
   ·simp only [List.mem_singleton] at hj;subst hj;exact ⟨u0,u1⟩
  have hmem3:∀ s,s∈(ks++[Int.ofNat q]).map (fun j=>(k.getD j.toNat ([],true)).1)↔s∈ks.map (fun j=>(k.getD j.toNat ([],true)).1)∨s=k[q].1:=by
   intro s
   rw [List.map_append,List.mem_append]
   simp only [List.map_cons,List.map_nil,List.mem_singleton,Int.ofNat_eq_natCast,Int.toNat_natCast,hkq]
  have hms:k.length-(ks++[Int.ofNat q]).length<k.length-ks.length:=by simp only [List.length_append,List.length_singleton];omega
  cbv
  repeat' (first|apply And.intro|exact fun (_:FF)=>by kernel_rfl|(intro h2;cbv)|apply Or.inl)
  any_goals first|exact g1|exact g2|exact hbn
  ·have e1:A.asBool (A.mget (A.mget dU (.str (A.asStr (A.cell dq (A.last (A.see z (Int.ofNat q))) 0))) 0) (.str n) 0)=true:=by assumption
   refine ⟨(ks++[Int.ofNat q],A.see z (Int.ofNat q),_),⟨hsee,hnd3,hb3,_,happ,?_,fun s=> ?_⟩,hms,[0,1,2],rfl,?_⟩
   ·rw [List.nodup_append];exact ⟨hln,by simp,fun a ha b hb=>by simp at hb;subst hb;exact fun e=>hnotl (e▸ha)⟩
   ·rw [List.mem_append,List.mem_singleton,hlm,hmem3]
    constructor
    ·rintro (⟨a,b⟩|rfl)
     ·exact ⟨.inl a,b⟩
     ·exact ⟨.inr rfl,hbk.1 e1⟩
    ·rintro ⟨a|a,b⟩
     ·exact .inl ⟨a,b⟩
     ·exact .inr a
   (cbv;repeat' apply And.intro);all_goals try first|trivial|rfl|(rw [X.a];rfl)
  ·have e1:A.asBool (A.mget (A.mget dU (.str (A.asStr (A.cell dq (A.last (A.see z (Int.ofNat q))) 0))) 0) (.str n) 0)=false:=by assumption
   refine ⟨(ks++[Int.ofNat q],A.see z (Int.ofNat q),r),⟨hsee,hnd3,hb3,l,hr,hln,fun s=> ?_⟩,hms,[0,1,2],rfl,?_⟩
   ·rw [hlm,hmem3]
    constructor
    ·rintro ⟨a,b⟩;exact ⟨.inl a,b⟩
    ·rintro ⟨a|rfl,b⟩
     ·exact ⟨a,b⟩
     ·rw [hbk.2 b] at e1;cases e1
   (cbv;repeat' apply And.intro);all_goals try first|trivial|rfl|(rw [X.a];rfl)
end Go.VC.T07
end

section
namespace Go.VC
theorem ks_len {n:Nat} {ks:List Int} (hnd:ks.Nodup) (hb:∀ j∈ks,0≤j∧j<(n:Int)):ks.length≤n:=by
 have h1:(ks.map Int.toNat).Nodup:=by
  refine List.pairwise_map.2 (List.Pairwise.imp_of_mem ?_ hnd)
  intro a b ha hb' hab e
  have:=hb a ha;have:=hb b hb'
  exact hab (by omega)
 have h3:=nodup_sub_len (m:=List.range n) h1 fun x hx=>by
  rw [List.mem_range]
  obtain ⟨j,hj,rfl⟩:=List.mem_map.1 hx
  have:=hb j hj
  omega
 simpa using h3
theorem head_at {l:List S} {n:S}:l.head? =some n↔0<l.length∧(l.getD 0 [])=n:=by
 cases l<;>simp
theorem GM.uniq {i:IF} {n:S} {l l':List S} (h:GM i n l) (h':GM i n l'):l=l':=by
 have hp:l.Perm l':=by
  rw [List.perm_ext_iff_of_nodup h.nd h'.nd]
  intro s;rw [h.mem,h'.mem]
 refine List.Perm.eq_of_pairwise (le:=fun a b=>slt b a=false) ?_ h.srt h'.srt hp
 intro a b _ _ h1 h2
 exact slt_tri h2 h1
open Classical in
noncomputable def grp (i:IF) (n:S):List S:=if h:∃ l,GM i n l then h.choose else []
theorem GM.grp {i:IF} {n:S} {l:List S} (h:GM i n l):l=grp i n:=by
 have hx:∃ l,GM i n l:=⟨l,h⟩
 unfold VC.grp
 rw [dif_pos hx]
 exact h.uniq hx.choose_spec
end Go.VC
namespace Go.VC.T07
open Go Go.VC Go.Proofs
def g19a:Cfg:={tt:=tt,n:=36,own:=[4],keep:=[45]}
theorem F19 {i:IF} (hi:i.ok) (hsz:∀ x∈i.types,x.lower.size≤1048576∧x.upper.size≤1048576) (hrf:refsSz i≤1048576) {c0:S} {c1 c2 c3 c4:D} {K:PV→List Ob→Prop} (hx:ifIs i c0 c1 c2 c3 c4)
  (h:∀ ls r,r=encL encLS ls→(∀ l∈ls,∃ n,GM i n l∧l.head? =some n)→ls.length≤i.types.length→(∀ n,(tyF i n).isSome=true→∃ l,GM i n l∧(l.head? =some n→l∈ls))→K (.row 24 0) [.row 24 r true]):
  FC Tryz.prog tt 19 [] [ifPV c0 c1 c2 c3 c4] K:=by
 have htl:i.types.length≤4294967295:=hi.nt
 refine FC.enterOwn (G:=g19a) tt_ok mixed ⟨Tryz.func19,by rfl,rfl⟩ rfl rfl rfl ?_
 intro A C L X
 cbv
 refine X.call (F43 hi hsz hrf hx fun m mu dA dT dU hm hmu hdA hdT hdU=> ?_)
 have hml:m.length≤i.types.length:=by
  have h1:=nodup_types (i:=i) hm.nd fun s hs=>by rw [look_mem,hm.get] at hs;exact hs
  rw [List.length_map] at h1;exact h1
 have hall2:∀ n,(tyF i n).isSome=true→n∈m.map (·.1):=fun n hn=>by rw [look_mem,hm.get];exact hn
 clear hdA hx
 cbv
 refine X.loopP (fun (x:List Int×D×D)=>⟨[(11,.it 3),(4,.row 24 2),(3,.box 1 0),(1,.box 0 0)],[.box [.str c0,.lst 51 c1,.lst 101 c2,.lst 106 c3,.lst 119 c4],.box [.lst 40 dA,.dmp 51 dT,.dmp 85 dU],.row 24 x.2.2 true,.diter 51 dT x.2.1]⟩)
  (fun x=>x.2.1=encJ x.1∧x.1.Nodup∧(∀ j∈x.1,0≤j∧j<m.length)∧∃ ls,x.2.2=encL encLS ls∧(∀ l∈ls,∃ n,GM i n l∧l.head? =some n)∧ls.length≤x.1.length∧∀ j∈x.1,∃ l,GM i (m.getD j.toNat ([],TE.zero)).1 l∧(l.head? =some (m.getD j.toNat ([],TE.zero)).1→l∈ls)) (fun x=>m.length-x.1.length) ([],.list [],.list []) ⟨rfl,by simp,by simp,[],rfl,by simp,Nat.le_refl _,by simp⟩ ?_ ?_
 ·refine ⟨[0,1,2,3],rfl,?_⟩
  (cbv;repeat' apply And.intro);all_goals try first|trivial|rfl|(rw [X.a];rfl)
 rintro ⟨ks,z,r⟩ ⟨hz,hnd,hb,ls,hr,hls,hlen,hks⟩
 simp only at hz hnd hb hr hls hlen hks
 cbv
 refine ⟨fun h1=> ?_,fun j h1=> ?_⟩
 ·have ha:=Std_allSeen (m:=m) (f:=encKV encTE) (l:=ks) (by rw [← hdT,←hz,←X.a];exact h1)
  have hkl:ks.length≤m.length:=ks_len hnd hb
  have hll:∀ l∈ls,l.length≤4294967295:=by
   intro l hl
   obtain ⟨n,hg,_⟩:=hls l hl
   exact Nat.le_trans (nodup_types hg.nd fun s hs=>((hg.mem s).1 hs).1.has) htl
  cbv
  refine X.call (F45 hr (Nat.le_trans hlen (Nat.le_trans hkl (Nat.le_trans hml htl))) hll fun ms r2 hp _ hr2=> ?_)
  cbv
  refine h ms r2 hr2 (fun l hl=>hls l (hp.mem_iff.1 hl)) (by rw [hp.length_eq];exact Nat.le_trans hlen (Nat.le_trans hkl hml)) fun n hn=> ?_
  obtain ⟨q,hq,e⟩:=List.mem_map.1 (hall2 n hn)
  obtain ⟨k,hk⟩:=List.getElem?_of_mem hq
  have hkk:k<m.length:=(List.getElem?_eq_some_iff.1 hk).1
  obtain ⟨l,h3,h4⟩:=hks k (ha k hkk)
  have e2:(m.getD (Int.toNat (k:Int)) ([],TE.zero)).1=n:=by simp [List.getD,hk,e]
  rw [e2] at h3 h4
  exact ⟨l,h3,fun e3=>hp.mem_iff.2 (h4 e3)⟩
 ·obtain ⟨u0,u1,u2⟩:0≤j∧j<m.length∧j∉ks:=Std_unseen (by rw [← hdT,←hz,←X.a];exact h1)
  have hsee:A.see z j=encJ (ks++[j]):=by rw [X.a,hz,Std_see]
  have hlast:A.last (A.see z j)=j:=by rw [hsee,X.a,Std_last]
  obtain ⟨k,rfl⟩:∃ k:Nat,j=Int.ofNat k:=⟨j.toNat,by simp only [Int.ofNat_eq_natCast];omega⟩
  have hk:k<m.length:=by simp only [Int.ofNat_eq_natCast] at u1;omega
  have hkey:A.asStr (A.cell dT (A.last (A.see z (Int.ofNat k))) 0)=(m.getD k ([],TE.zero)).1:=by
   rw [hlast,cellAt X.a hdT hk,X.a]
   simp [encKV,Std_str,hk]
  have g1:A.idx 0 (A.len (A.see z (Int.ofNat k))):=by rw [hsee,X.a,encJ_len,Std_idx];simp
  have g2:A.idx (A.last (A.see z (Int.ofNat k))) (A.len dT):=by rw [hlast,X.a,hdT];exact leaf_idx hk
  have hlt:=ks_lt hnd hb hk u2
  have hnd3:(ks++[Int.ofNat k]).Nodup:=by rw [List.nodup_append];exact ⟨hnd,by simp,fun a ha b hb=>by simp at hb;subst hb;exact fun e=>u2 (show (k:Int)∈ks from e▸ha)⟩
  have hb3:∀ j∈ks++[Int.ofNat k],0≤j∧j<m.length:=by
   intro j hj
   rcases List.mem_append.1 hj with hj|hj
   ·exact hb j hj
   ·simp only [List.mem_singleton] at hj;subst hj;exact ⟨u0,u1⟩
  have hms:m.length-(ks++[Int.ofNat k]).length<m.length-ks.length:=by simp only [List.length_append,List.length_singleton];omega
  cbv
  repeat' (first|apply And.intro|exact fun (_:FF)=>by kernel_rfl|(intro h2;cbv)|apply Or.inl)
  any_goals first|exact g1|exact g2
  refine X.call (FC.g1 (F44 htl hmu hdU fun l rl hrl hgm=> ?_))
  have hgm:GM i (A.asStr (A.cell dT (A.last (A.see z (Int.ofNat k))) 0)) l:=hgm
  rw [hkey] at hgm
  have hll:l.length≤4294967295:=Nat.le_trans (nodup_types hgm.nd fun s hs=>((hgm.mem s).1 hs).1.has) htl
  have g3:0<l.length→A.idx 0 (A.len rl):=fun h=>by rw [X.a,hrl];exact leaf_idx (i:=0) h
  have hln:A.lt 0 (A.len rl)=decide (0<l.length):=by
   rw [X.a,hrl,Std_len,Std_lt];simp
  have hc0:0<l.length→A.asStr (A.cell rl 0 0)=l.getD 0 []:=fun h=>by
   rw [X.a,hrl];cases l with|nil=>cases h|cons a l=>rfl
  have hsq:A.seq (A.asStr (A.cell rl 0 0)) (A.asStr (A.cell dT (A.last (A.see z (Int.ofNat k))) 0))=(A.asStr (A.cell rl 0 0)==(m.getD k ([],TE.zero)).1):=by
   rw [hkey,X.a];rfl
  have hhead:(m.getD (Int.toNat (Int.ofNat k)) ([],TE.zero)).1=(m.getD k ([],TE.zero)).1:=rfl
  have hbn:A.bnd (A.add (A.len r) (A.len (A.lit [[rl]]))) 4294967296:=by
   have h9:ls.length≤4294967294:=Nat.le_of_succ_le_succ (Nat.le_trans (Nat.succ_le_succ hlen) (Nat.le_trans (Nat.succ_le_of_lt hlt) (Nat.le_trans hml htl)))
   rw [X.a,hr];simp only [SD,bNot,List.length_map];omega
  have happ:A.app r (A.lit [[rl]])=encL encLS (ls++[l]):=by rw [hrl,X.a,hr];exact Std_app (k:=[l])
  have hno:¬(l.head? =some (m.getD k ([],TE.zero)).1)→∀ j∈ks++[Int.ofNat k],∃ l,GM i (m.getD j.toNat ([],TE.zero)).1 l∧(l.head? =some (m.getD j.toNat ([],TE.zero)).1→l∈ls):=by
   intro hh j hj
   rcases List.mem_append.1 hj with hj|hj
   ·exact hks j hj
   ·simp only [List.mem_singleton] at hj;subst hj;exact ⟨l,hgm,fun e=>absurd e hh⟩
  cbv
  repeat' (first|apply And.intro|exact fun (_:FF)=>by kernel_rfl|(intro h2;cbv)|apply Or.inl)
  any_goals first|exact hbn|(refine g3 ?_;have h2:A.lt 0 (A.len rl)=true:=(by assumption);rw [hln] at h2;exact of_decide_eq_true h2)
  ·have e1:A.lt 0 (A.len rl)=true:=by assumption
   have e2:A.seq (A.asStr (A.cell rl 0 0)) (A.asStr (A.cell dT (A.last (A.see z (Int.ofNat k))) 0))=true:=by assumption
   rw [hln] at e1
   have e1:=of_decide_eq_true e1
   rw [hsq,hc0 e1] at e2
   have e3:l.head? =some (m.getD k ([],TE.zero)).1:=head_at.2 ⟨e1,eq_of_beq e2⟩
   refine ⟨(ks++[Int.ofNat k],A.see z (Int.ofNat k),_),⟨hsee,hnd3,hb3,_,happ,?_,?_,?_⟩,hms,[0,1,2,3],rfl,?_⟩
   ·intro l' hl'
    rcases List.mem_append.1 hl' with hl'|hl'
    ·exact hls l' hl'
    ·simp only [List.mem_singleton] at hl';subst hl';exact ⟨_,hgm,e3⟩
   ·simp only [List.length_append,List.length_singleton];exact Nat.succ_le_succ hlen
   ·intro j hj
    rcases List.mem_append.1 hj with hj|hj
    ·obtain ⟨l',a,b⟩:=hks j hj
     exact ⟨l',a,fun e=>List.mem_append_left _ (b e)⟩
    ·simp only [List.mem_singleton] at hj;subst hj;exact ⟨l,hgm,fun _=>by simp⟩
   (cbv;repeat' apply And.intro);all_goals try first|trivial|rfl|(rw [X.a];rfl)
  ·have e1:A.lt 0 (A.len rl)=true:=by assumption
   have e2:A.seq (A.asStr (A.cell rl 0 0)) (A.asStr (A.cell dT (A.last (A.see z (Int.ofNat k))) 0))=false:=by assumption
   rw [hln] at e1
   have e1:=of_decide_eq_true e1
   rw [hsq,hc0 e1] at e2
   refine ⟨(ks++[Int.ofNat k],A.see z (Int.ofNat k),r),⟨hsee,hnd3,hb3,ls,hr,hls,?_,hno ?_⟩,hms,[0,1,2,3],rfl,?_⟩
   ·simp only [List.length_append,List.length_singleton];exact Nat.le_succ_of_le hlen
   ·intro e;rw [(head_at.1 e).2] at e2;simp at e2
   (cbv;repeat' apply And.intro);all_goals try first|trivial|rfl|(rw [X.a];rfl)
  ·have e1:A.lt 0 (A.len rl)=bNot true:=by assumption
   rw [hln] at e1
   have e1:decide (0<l.length)=false:=e1
   refine ⟨(ks++[Int.ofNat k],A.see z (Int.ofNat k),r),⟨hsee,hnd3,hb3,ls,hr,hls,?_,hno ?_⟩,hms,[0,1,2,3],rfl,?_⟩
   ·simp only [List.length_append,List.length_singleton];exact Nat.le_succ_of_le hlen
   ·intro e;have:=(head_at.1 e).1;simp [this] at e1
   (cbv;repeat' apply And.intro);all_goals try first|trivial|rfl|(rw [X.a];rfl)
end Go.VC.T07
end

section
namespace Go.VC
mutual
def guardB (i:IF) (g:List S):Ty→Bool
 | .mk k m n ar fl=>if k != 10 then true else if memR i g (.mk k m n ar fl) then false else guardL i g ar
def guardL (i:IF) (g:List S):List Ty→Bool
 |[]=>true
 |t::l=>guardB i g t&&guardL i g l
end
theorem guardL_any (i:IF) (g:List S):∀ l,guardL i g l= !(l.any fun t=> !guardB i g t)
 |[]=>rfl
 |t::l=>by rw [guardL,guardL_any i g l,List.any_cons];simp
def sameB (ar:List Ty) (ps:List Pm):Bool:=decide (ar.length=ps.length)&&(ar.zip ps).all fun q=>q.1.k==9&&q.1.n==q.2.name
def regB1 (i:IF) (g:List S) (ps:List Pm) (u:Ty):Bool:= !memR i g u||sameB u.ar ps
def regB (i:IF) (g:List S) (ps:List Pm) (t:Ty):Bool:=t.all.all (regB1 i g ps)
theorem regB_eq (i:IF) (g:List S) (ps:List Pm) (t:Ty):regB i g ps t=(regB1 i g ps t&& !(t.pts.any fun u=> !regB i g ps u)):=by
 unfold regB
 rw [all_eq,List.all_cons]
 congr 1
 rw [List.all_flatMap,List.any_eq_not_all_not,Bool.not_not]
 simp only [Bool.not_not]
end Go.VC
namespace Go.VC.T07
open Go Go.VC Go.Proofs
theorem F222_200 {l:List Ty} {dl:D} {p:Ty→Bool} {d dT dg:D} {K:PV→List Ob→Prop} (hd:dl=encL encTy l) (hl:l.length≤4294967295)
  (hg:∀ x∈l,∀ (c0:Int) (c1:S) (c2:S) (c3:D) (c4:D) (K':PV→List Ob→Prop),tyIs x c0 c1 c2 c3 c4→(∀ b,b=p x→K' (.bool b) [])→FC Tryz.prog tt 200 [] [tyPV c0 c1 c2 c3 c4,.pptr [.lst 40 d,.dmp 51 dT,.undef] 0,.pptr [.lst 9 dg] 0] K')
  (h:∀ r:Int,r=idxF p l→K (.int .i64 r) []):
  FC Tryz.prog tt 222 [] [.lst 28 dl,.clos 200 [.pptr [.lst 40 d,.dmp 51 dT,.undef] 0,.pptr [.lst 9 dg] 0]] K:=by
 refine FC.enter (G:=g222) tt_ok mixed ⟨Tryz.func222,by rfl,rfl⟩ rfl rfl rfl ?_
 intro A C L X
 obtain ⟨n_dl,hn_dl,hlen_dl⟩:=lenOf hd
 cbv
 refine X.loop (fun (i:Nat)=>⟨[(8,.int .i64 i),(7,.int .i64 (A.len dl)),(1,.clos 200 [.pptr [.lst 40 d,.dmp 51 dT,.undef] 0,.pptr [.lst 9 dg] 0]),(0,.lst 28 dl)],[]⟩) (fun i=>i≤n_dl∧∀ x∈l.take i,p x=false) (fun i=>n_dl-i) 0 ⟨Nat.zero_le _,by simp⟩ ?_ ?_
 ·(cbv;repeat' apply And.intro);all_goals try first|trivial|rfl|(rw [X.a];rfl)
 rintro i ⟨hi,ha⟩
 cbv
 refine ⟨fun h1=> ?_,fun h1=> ?_⟩
 ·have h5:i<l.length:=by obtain rfl:=X.a;simp only [hlen_dl,SD,bNot] at h1;omega
  have k1:=tyAt X.a hd h5
  have hid:A.idx (Int.ofNat i) (A.len dl):=by rw [X.a,hd];exact leaf_idx h5
  have hin:A.inr .i64 (A.add (Int.ofNat i) 1):=by rw [X.a];exact leaf_inc h5 (by omega)
  cbv
  repeat' (first|apply And.intro|exact fun (_:FF)=>by kernel_rfl|(intro h2;cbv)|apply Or.inl)
  any_goals exact hid
  refine X.call (hg _ (List.getElem_mem h5) _ _ _ _ _ _ k1 fun b hb=> ?_)
  have hb':b=p l[i]:=hb
  clear hb
  cbv
  repeat' (first|apply And.intro|exact fun (_:FF)=>by kernel_rfl|(intro h2;cbv)|apply Or.inl)
  any_goals exact hin
  ·refine h i ?_
   exact (idxF_some h5 ha (by rw [← hb'];obtain rfl:=X.a;simpa only [SD,bNot] using h2)).symm
  ·have hf:p l[i]=false:=by rename_i h3;rw [← hb'];obtain rfl:=X.a;simpa only [SD,bNot] using h3
   refine ⟨i+1,⟨by omega,?_⟩,by omega,?_⟩
   ·rw [take_succ' h5];intro x hx
    rcases List.mem_append.1 hx with hx|hx
    ·exact ha x hx
    ·simp at hx;subst hx;exact hf
   (cbv;repeat' apply And.intro);all_goals try first|trivial|rfl|(rw [X.a];rfl)
 ·have h5:i=n_dl:=by obtain rfl:=X.a;simp only [hlen_dl,SD,bNot] at h1;omega
  subst h5
  cbv
  refine h (-1) ?_
  rw [hn_dl,List.take_length] at ha
  exact (idxF_none ha).symm
theorem F199_200 {l:List Ty} {dl:D} {p:Ty→Bool} {d dT dg:D} {K:PV→List Ob→Prop} (hd:dl=encL encTy l) (hl:l.length≤4294967295)
  (hg:∀ x∈l,∀ (c0:Int) (c1:S) (c2:S) (c3:D) (c4:D) (K':PV→List Ob→Prop),tyIs x c0 c1 c2 c3 c4→(∀ b,b=p x→K' (.bool b) [])→FC Tryz.prog tt 200 [] [tyPV c0 c1 c2 c3 c4,.pptr [.lst 40 d,.dmp 51 dT,.undef] 0,.pptr [.lst 9 dg] 0] K')
  (h:∀ b,b=l.any p→K (.bool b) []):
  FC Tryz.prog tt 199 [] [.lst 28 dl,.clos 200 [.pptr [.lst 40 d,.dmp 51 dT,.undef] 0,.pptr [.lst 9 dg] 0]] K:=by
 refine FC.enter (G:=g199) tt_ok mixed ⟨Tryz.func199,by rfl,rfl⟩ rfl rfl rfl ?_
 intro A C L X
 cbv
 refine X.call (F222_200 hd hl hg fun r hr=> ?_)
 have q:=h (A.le 0 r) (by rw [X.a,Std_le,idxF_any,hr])
 cbv
 exact q
theorem F222_203 {l:List Ty} {dl:D} {p:Ty→Bool} {d dT dg:D} {e0:S} {e1:D} {e2:Int} {e3 e4:S} {e5 e6:D} {e7:Int} {e8 e9:S} {e10 e11:D} {K:PV→List Ob→Prop} (hd:dl=encL encTy l) (hl:l.length≤4294967295)
  (hg:∀ x∈l,∀ (c0:Int) (c1:S) (c2:S) (c3:D) (c4:D) (K':PV→List Ob→Prop),tyIs x c0 c1 c2 c3 c4→(∀ b,b=p x→K' (.bool b) [])→FC Tryz.prog tt 203 [] [tyPV c0 c1 c2 c3 c4,.pptr [.lst 40 d,.dmp 51 dT,.undef] 0,.pptr [.str e0,.lst 53 e1,.int .i64 e2,.str e3,.str e4,.lst 28 e5,.lst 65 e6,.int .i64 e7,.str e8,.str e9,.lst 28 e10,.lst 65 e11] 0,.pptr [.lst 9 dg] 0] K')
  (h:∀ r:Int,r=idxF p l→K (.int .i64 r) []):
  FC Tryz.prog tt 222 [] [.lst 28 dl,.clos 203 [.pptr [.lst 40 d,.dmp 51 dT,.undef] 0,.pptr [.str e0,.lst 53 e1,.int .i64 e2,.str e3,.str e4,.lst 28 e5,.lst 65 e6,.int .i64 e7,.str e8,.str e9,.lst 28 e10,.lst 65 e11] 0,.pptr [.lst 9 dg] 0]] K:=by
 refine FC.enter (G:=g222) tt_ok mixed ⟨Tryz.func222,by rfl,rfl⟩ rfl rfl rfl ?_
 intro A C L X
 obtain ⟨n_dl,hn_dl,hlen_dl⟩:=lenOf hd
 cbv
 refine X.loop (fun (i:Nat)=>⟨[(8,.int .i64 i),(7,.int .i64 (A.len dl)),(1,.clos 203 [.pptr [.lst 40 d,.dmp 51 dT,.undef] 0,.pptr [.str e0,.lst 53 e1,.int .i64 e2,.str e3,.str e4,.lst 28 e5,.lst 65 e6,.int .i64 e7,.str e8,.str e9,.lst 28 e10,.lst 65 e11] 0,.pptr [.lst 9 dg] 0]),(0,.lst 28 dl)],[]⟩) (fun i=>i≤n_dl∧∀ x∈l.take i,p x=false) (fun i=>n_dl-i) 0 ⟨Nat.zero_le _,by simp⟩ ?_ ?_
 ·(cbv;repeat' apply And.intro);all_goals try first|trivial|rfl|(rw [X.a];rfl)
 rintro i ⟨hi,ha⟩
 cbv
 refine ⟨fun h1=> ?_,fun h1=> ?_⟩
 ·have h5:i<l.length:=by obtain rfl:=X.a;simp only [hlen_dl,SD,bNot] at h1;omega
  have k1:=tyAt X.a hd h5
  have hid:A.idx (Int.ofNat i) (A.len dl):=by rw [X.a,hd];exact leaf_idx h5
  have hin:A.inr .i64 (A.add (Int.ofNat i) 1):=by rw [X.a];exact leaf_inc h5 (by omega)
  cbv
  repeat' (first|apply And.intro|exact fun (_:FF)=>by kernel_rfl|(intro h2;cbv)|apply Or.inl)
  any_goals exact hid
  refine X.call (hg _ (List.getElem_mem h5) _ _ _ _ _ _ k1 fun b hb=> ?_)
  have hb':b=p l[i]:=hb
  clear hb
  cbv
  repeat' (first|apply And.intro|exact fun (_:FF)=>by kernel_rfl|(intro h2;cbv)|apply Or.inl)
  any_goals exact hin
  ·refine h i ?_
   exact (idxF_some h5 ha (by rw [← hb'];obtain rfl:=X.a;simpa only [SD,bNot] using h2)).symm
  ·have hf:p l[i]=false:=by rename_i h3;rw [← hb'];obtain rfl:=X.a;simpa only [SD,bNot] using h3
   refine ⟨i+1,⟨by omega,?_⟩,by omega,?_⟩
   ·rw [take_succ' h5];intro x hx
    rcases List.mem_append.1 hx with hx|hx
    ·exact ha x hx
    ·simp at hx;subst hx;exact hf
   (cbv;repeat' apply And.intro);all_goals try first|trivial|rfl|(rw [X.a];rfl)
 ·have h5:i=n_dl:=by obtain rfl:=X.a;simp only [hlen_dl,SD,bNot] at h1;omega
  subst h5
  cbv
  refine h (-1) ?_
  rw [hn_dl,List.take_length] at ha
  exact (idxF_none ha).symm
theorem F199_203 {l:List Ty} {dl:D} {p:Ty→Bool} {d dT dg:D} {e0:S} {e1:D} {e2:Int} {e3 e4:S} {e5 e6:D} {e7:Int} {e8 e9:S} {e10 e11:D} {K:PV→List Ob→Prop} (hd:dl=encL encTy l) (hl:l.length≤4294967295)
  (hg:∀ x∈l,∀ (c0:Int) (c1:S) (c2:S) (c3:D) (c4:D) (K':PV→List Ob→Prop),tyIs x c0 c1 c2 c3 c4→(∀ b,b=p x→K' (.bool b) [])→FC Tryz.prog tt 203 [] [tyPV c0 c1 c2 c3 c4,.pptr [.lst 40 d,.dmp 51 dT,.undef] 0,.pptr [.str e0,.lst 53 e1,.int .i64 e2,.str e3,.str e4,.lst 28 e5,.lst 65 e6,.int .i64 e7,.str e8,.str e9,.lst 28 e10,.lst 65 e11] 0,.pptr [.lst 9 dg] 0] K')
  (h:∀ b,b=l.any p→K (.bool b) []):
  FC Tryz.prog tt 199 [] [.lst 28 dl,.clos 203 [.pptr [.lst 40 d,.dmp 51 dT,.undef] 0,.pptr [.str e0,.lst 53 e1,.int .i64 e2,.str e3,.str e4,.lst 28 e5,.lst 65 e6,.int .i64 e7,.str e8,.str e9,.lst 28 e10,.lst 65 e11] 0,.pptr [.lst 9 dg] 0]] K:=by
 refine FC.enter (G:=g199) tt_ok mixed ⟨Tryz.func199,by rfl,rfl⟩ rfl rfl rfl ?_
 intro A C L X
 cbv
 refine X.call (F222_203 hd hl hg fun r hr=> ?_)
 have q:=h (A.le 0 r) (by rw [X.a,Std_le,idxF_any,hr])
 cbv
 exact q
theorem F202 {t:Ty} {p:Pm} {c0:Int} {c1 c2:S} {c3 c4:D} {b0:S} {b1 b2:Int} {b3 b4:S} {b5 b6:D} {K:PV→List Ob→Prop} (ht:tyIs t c0 c1 c2 c3 c4) (hp:pmIs p b0 b1 b2 b3 b4 b5 b6) (h:∀ b,b=(t.k==9&&t.n==p.name)→K (.bool b) []):
  FC Tryz.prog tt 202 [] [tyPV c0 c1 c2 c3 c4,pmPV b0 b1 b2 b3 b4 b5 b6] K:=by
 obtain ⟨t0,t1,t2,hc3,hc4⟩:=ht
 rw [← t0,←t2,←hp.1] at h
 refine FC.enter (G:=g202) tt_ok mixed ⟨Tryz.func202,by rfl,rfl⟩ rfl rfl rfl ?_
 intro A C L X
 have heq:=eqA X.a
 have hsq:=sqA X.a
 cbv
 repeat' (first|apply And.intro|exact fun (_:FF)=>by kernel_rfl|(intro h2;cbv)|apply Or.inl)
 ·have e1:A.eq c0 9=true:=by assumption
  rw [heq] at e1
  refine h _ ?_
  rw [e1];exact hsq c2 b0
 ·have e1:A.eq c0 9=false:=by assumption
  rw [heq] at e1
  refine h _ ?_
  rw [e1];rfl
theorem F201 {ar:List Ty} {ps:List Pm} {da dp:D} {K:PV→List Ob→Prop} (ha:da=encL encTy ar) (hp:dp=encL encPm ps) (hal:ar.length≤4294967295) (h:∀ b,b=sameB ar ps→K (.bool b) []):
  FC Tryz.prog tt 201 [] [.lst 28 da,.lst 53 dp,.clos 202 []] K:=by
 refine FC.enter (G:=g201) tt_ok mixed ⟨Tryz.func201,by rfl,rfl⟩ rfl rfl rfl ?_
 intro A C L X
 obtain ⟨n_da,hn_da,hlen_da⟩:=lenOf ha
 obtain ⟨n_dp,hn_dp,hlen_dp⟩:=lenOf hp
 have l1:A.len da=Int.ofNat ar.length:=lenIs X.a ha
 have l2:A.len dp=Int.ofNat ps.length:=lenIs X.a hp
 have hneg:=negA X.a
 have heq:=eqA X.a
 cbv
 repeat' (first|apply And.intro|exact fun (_:FF)=>by kernel_rfl|(intro h2;cbv)|apply Or.inl)
 ·have h2:A.not (A.eq (A.len da) (A.len dp))=true:=h2
  rw [hneg,heq,l1,l2] at h2
  refine h _ ?_
  have:¬ar.length=ps.length:=fun e=>by rw [e] at h2;simp at h2
  unfold sameB;rw [decide_eq_false this];rfl
 have hll:ar.length=ps.length:=by
  have h2:A.not (A.eq (A.len da) (A.len dp))=false:=h2
  rw [hneg,heq,l1,l2] at h2
  have h2:(Int.ofNat ar.length==Int.ofNat ps.length)=true:=by simpa using h2
  exact Int.ofNat.inj (eq_of_beq h2)
 clear h2
 cbv
 refine X.loop (fun (i:Nat)=>⟨[(17,.int .i64 i),(16,.int .i64 (A.len da)),(15,.lst 28 da),(2,.clos 202 []),(1,.lst 53 dp),(0,.lst 28 da)],[]⟩) (fun i=>i≤n_da∧((ar.zip ps).take i).all (fun q=>q.1.k==9&&q.1.n==q.2.name)=true) (fun i=>n_da-i) 0 ⟨Nat.zero_le _,rfl⟩ ?_ ?_
 ·(cbv;repeat' apply And.intro);all_goals try first|trivial|rfl|(rw [X.a];rfl)
 rintro i ⟨hi,hq⟩
 cbv
 refine ⟨fun h1=> ?_,fun h1=> ?_⟩
 ·have h5:i<ar.length:=by obtain rfl:=X.a;simp only [hlen_da,SD,bNot] at h1;omega
  have h6:i<ps.length:=hll▸h5
  have h7:i<(ar.zip ps).length:=by rw [List.length_zip,hll,Nat.min_self];exact h6
  have k1:=tyAt X.a ha h5
  have k2:=pmIsAt X.a hp h6
  have hid:A.idx (Int.ofNat i) (A.len da):=by rw [X.a,ha];exact leaf_idx h5
  have hid2:A.idx (Int.ofNat i) (A.len dp):=by rw [X.a,hp];exact leaf_idx h6
  have hin:A.inr .i64 (A.add (Int.ofNat i) 1):=by rw [X.a];exact leaf_inc h5 (by omega)
  have hz:(ar.zip ps)[i]=(ar[i],ps[i]):=List.getElem_zip
  cbv
  repeat' (first|apply And.intro|exact fun (_:FF)=>by kernel_rfl|(intro h2;cbv)|apply Or.inl)
  any_goals first|exact hid|exact hid2
  refine X.call (F202 k1 k2 fun b hb=> ?_)
  cbv
  repeat' (first|apply And.intro|exact fun (_:FF)=>by kernel_rfl|(intro h2;cbv)|apply Or.inl)
  any_goals exact hin
  ·have h2:A.not b=true:=by assumption
   rw [hneg,hb] at h2
   refine h _ ?_
   have:((ar.zip ps).all fun q=>q.1.k==9&&q.1.n==q.2.name)=false:=by
    rw [List.all_eq_false];refine ⟨_,List.getElem_mem h7,?_⟩;rw [hz];intro e;have e:(ar[i].k==9&&ar[i].n==ps[i].name)=true:=e;rw [e] at h2;cases h2
   unfold sameB;rw [this,Bool.and_false]
  ·have h2:A.not b=false:=by assumption
   rw [hneg,hb] at h2
   refine ⟨i+1,⟨by omega,?_⟩,by omega,?_⟩
   ·rw [take_succ' h7,List.all_append,hq,hz,List.all_cons,List.all_nil,Bool.and_true,Bool.true_and];simpa using h2
   (cbv;repeat' apply And.intro);all_goals try first|trivial|rfl|(rw [X.a];rfl)
 ·have h5:i=n_da:=by obtain rfl:=X.a;simp only [hlen_da,SD,bNot] at h1;omega
  cbv
  refine h true ?_
  rw [List.take_of_length_le (by rw [List.length_zip,hll,Nat.min_self,←hll,h5,hn_da];exact Nat.le_refl _)] at hq
  unfold sameB;rw [hq,decide_eq_true hll];rfl
theorem F150 {i:IF} (hi:i.ok) {m:List (S×TE)} (hm:TM m i) {d dT dg:D} (hd:d=encL encIF [i]) (hT:dT=encL (encKV encTE) m) {g:List S} (hg:dg=encL encS g) (hgl:g.length≤4294967295):
  ∀ (t:Ty),Ty.le 4294967295 t→∀ {c0:Int} {c1 c2:S} {c3 c4:D} {K:PV→List Ob→Prop},tyIs t c0 c1 c2 c3 c4→(∀ b,b=guardB i g t→K (.bool b) [])→
  FC Tryz.prog tt 150 [] [.agg [.lst 40 d,.dmp 51 dT,.undef],tyPV c0 c1 c2 c3 c4,.lst 9 dg] K:=by
 refine Ty.pinduct fun t ih=> ?_
 intro hle c0 c1 c2 c3 c4 K ht h
 have ht':=ht
 obtain ⟨t0,t1,t2,hc3,hc4⟩:=ht
 have harl:t.ar.length≤4294967295:=by cases hle;assumption
 have hgB:guardB i g t=if c0 != 10 then true else if memR i g t then false else guardL i g t.ar:=by
  rw [t0];cases t;rfl
 refine FC.enter (G:=g150) tt_ok mixed ⟨Tryz.func150,by rfl,rfl⟩ rfl rfl rfl ?_
 intro A C L X
 have hneg:=negA X.a
 have heq:=eqA X.a
 cbv
 repeat' (first|apply And.intro|exact fun (_:FF)=>by kernel_rfl|(intro h2;cbv)|apply Or.inl|(refine X.call (F198 hi hm hd hT hg hgl ht' fun b hb=> ?_);cbv))
 ·have h2:A.not (A.eq c0 10)=true:=h2
  rw [hneg,heq] at h2
  refine h _ ?_
  rw [hgB,if_pos (show (c0 != 10)=true from h2)]
 ·have h3:A.not (A.eq c0 10)=false:=by assumption
  have h2:b=true:=h2
  rw [hneg,heq] at h3
  refine h _ ?_
  rw [hgB,if_neg (by rw [show (c0 != 10)= !(c0==10) from rfl,h3];decide),if_pos (by rw [← hb,h2])]
 ·have h3:A.not (A.eq c0 10)=false:=by assumption
  have h2:b=false:=h2
  rw [hneg,heq] at h3
  refine X.call (F199_200 (p:=fun u=> !guardB i g u) hc3 harl (fun u hu b0 b1 b2 b3 b4 K' hu' hK'=> ?_) fun b3 hb3=> ?_)
  ·have h2:=h2
   have hmem:u∈t.pts:=by simp [Ty.pts,hu]
   refine FC.enter (G:=g200) tt_ok mixed ⟨Tryz.func200,by rfl,rfl⟩ rfl rfl rfl ?_
   intro A C L X
   cbv
   refine X.call (ih u hmem (pts_le hle u hmem) hu' fun b4 hb4=> ?_)
   have q:=hK' (A.not b4) (by rw [X.a,hb4];rfl)
   cbv
   exact q
  have q:=h (A.not b3) (by rw [hneg,hb3,hgB,if_neg (by rw [show (c0 != 10)= !(c0==10) from rfl,h3];decide),if_neg (by rw [← hb,h2];decide),guardL_any])
  cbv
  exact q
theorem F151 {i:IF} (hi:i.ok) {m:List (S×TE)} (hm:TM m i) {d dT dg:D} (hd:d=encL encIF [i]) (hT:dT=encL (encKV encTE) m) {g:List S} (hg:dg=encL encS g) (hgl:g.length≤4294967295) {x:TE} {e0:S} {e1:D} {e2:Int} {e3 e4:S} {e5 e6:D} {e7:Int} {e8 e9:S} {e10 e11:D} (hx:teIs x e0 e1 e2 e3 e4 e5 e6 e7 e8 e9 e10 e11):
  ∀ (t:Ty),Ty.le 4294967295 t→t.size≤4294967295→∀ {c0:Int} {c1 c2:S} {c3 c4:D} {K:PV→List Ob→Prop},tyIs t c0 c1 c2 c3 c4→(∀ b,b=regB i g x.params t→K (.bool b) [])→
  FC Tryz.prog tt 151 [] [.agg [.lst 40 d,.dmp 51 dT,.undef],tyPV c0 c1 c2 c3 c4,tePV e0 e1 e2 e3 e4 e5 e6 e7 e8 e9 e10 e11,.lst 9 dg] K:=by
 refine Ty.pinduct fun t ih=> ?_
 intro hle hs c0 c1 c2 c3 c4 K ht h
 obtain ⟨hszs,hpl⟩:=size_pts hs
 have ht':=ht
 obtain ⟨t0,t1,t2,hc3,hc4⟩:=ht
 have harl:t.ar.length≤4294967295:=by cases hle;assumption
 rw [regB_eq] at h
 refine FC.enter (G:=g151) tt_ok mixed ⟨Tryz.func151,by rfl,rfl⟩ rfl rfl rfl ?_
 intro A C L X
 have hneg:=negA X.a
 have hfin:regB1 i g x.params t=true→∀ {rp:D} (st:List Ob→Prop),rp=encL encTy t.pts→True:=fun _ _ _ _=>trivial
 have hsub:∀ u∈t.pts,∀ (b0:Int) (b1 b2:S) (b3 b4:D) (K':PV→List Ob→Prop),tyIs u b0 b1 b2 b3 b4→(∀ b,b= !regB i g x.params u→K' (.bool b) [])→FC Tryz.prog tt 203 [] [tyPV b0 b1 b2 b3 b4,.pptr [.lst 40 d,.dmp 51 dT,.undef] 0,.pptr [.str e0,.lst 53 e1,.int .i64 e2,.str e3,.str e4,.lst 28 e5,.lst 65 e6,.int .i64 e7,.str e8,.str e9,.lst 28 e10,.lst 65 e11] 0,.pptr [.lst 9 dg] 0] K':=by
  intro u hu b0 b1 b2 b3 b4 K' hu' hK'
  refine FC.enter (G:=g203) tt_ok mixed ⟨Tryz.func203,by rfl,rfl⟩ rfl rfl rfl ?_
  intro A C L X
  cbv
  refine X.call (ih u hu (pts_le hle u hu) (hszs u hu) hu' fun b4 hb4=> ?_)
  have q:=hK' (A.not b4) (by rw [X.a,hb4];rfl)
  cbv
  exact q
 cbv
 repeat' (first|apply And.intro|exact fun (_:FF)=>by kernel_rfl|(intro h2;cbv)|apply Or.inl|(refine X.call (F198 hi hm hd hT hg hgl ht' fun b hb=> ?_);cbv)|(refine X.call (F201 hc3 hx.2.1 harl fun b2 hb2=> ?_);cbv)|(refine X.call (F64 hle hpl ht' fun r hr=> ?_);cbv))
 ·have h2:A.not b2=true:=h2
  have h3:b=true:=by assumption
  rw [hneg,hb2] at h2
  refine h _ ?_
  rw [regB1,←hb,h3,show sameB t.ar x.params=false by simpa using h2];rfl
 ·have h2:A.not b2=false:=by assumption
  have h3:b=true:=by assumption
  rw [hneg,hb2] at h2
  refine X.call (F199_203 (p:=fun u=> !regB i g x.params u) hr hpl hsub fun b3 hb3=> ?_)
  have q:=h (A.not b3) (by rw [hneg,hb3,regB1,show sameB t.ar x.params=true by simpa using h2,Bool.or_true,Bool.true_and])
  cbv
  exact q
 ·have h3:b=false:=by assumption
  refine X.call (F199_203 (p:=fun u=> !regB i g x.params u) hr hpl hsub fun b3 hb3=> ?_)
  have q:=h (A.not b3) (by rw [hneg,hb3,regB1,←hb,h3,Bool.not_false,Bool.true_or,Bool.true_and])
  cbv
  exact q
end Go.VC.T07
end

section
namespace Go.VC
noncomputable def wrongT (p:Pm):Bool:=decide (p.var<0)||decide (2<p.var)|| !same p.bound Ty.zero
def wrongV (p:Pm):Bool:=p.var != 0
def pmNm (k:Nat):S:=35::Go.Lib.decDigits k
def paramL (w:Pm→Bool):Nat→List Pm→Int
 |_,[]=>0
 |k,p::l=>if p.name≠pmNm k then 4 else if w p then 1 else paramL w (k+1) l
def paramE (w:Pm→Bool) (l:List Pm):Int:=if 8<l.length then 7 else paramL w 0 l
noncomputable def soundB (i:IF) (x:TE):Bool:=
 if (grp i x.name).all (fun s=>((tyF i s).getD TE.zero).params.length==x.params.length)=false then false else
 guardB i (grp i x.name) x.lower&&guardB i (grp i x.name) x.upper&&regB i (grp i x.name) x.params x.lower&&regB i (grp i x.name) x.params x.upper
structure Ty.fit (t:Ty):Prop where
 le:Ty.le 4294967295 t
 sz:t.size≤1048576
 nod:∀ u∈t.all,u.nod
structure TE.fit (x:TE):Prop where
 n:x.name.length≤1048576
 np:x.params.length≤1048576
 p:∀ p∈x.params,p.bound.fit
 lo:x.lower.fit
 up:x.upper.fit
structure VE.fit (x:VE):Prop where
 n:x.name.length≤1048576
 np:x.params.length≤1048576
 p:∀ p∈x.params,p.bound.fit
 ty:x.ty.fit
structure AE.fit (x:AE):Prop where
 n:x.name.length≤1048576
 g:x.target.length≤1048576
structure DE.fit (x:DE):Prop where
 n:x.name.length≤1048576
structure IF.fit (i:IF):Prop where
 ok:i.ok
 path:i.path.length≤1048576
 rf:refsSz i≤1048576
 nt:i.types.length≤1048576
 nv:i.values.length≤1048576
 na:i.aliases.length≤1048576
 nd:i.deprecated.length≤1048576
 t:∀ x∈i.types,x.fit
 v:∀ x∈i.values,x.fit
 a:∀ x∈i.aliases,x.fit
 d:∀ x∈i.deprecated,x.fit
theorem IF.fit.hsz {i:IF} (h:i.fit):∀ x∈i.types,x.lower.size≤1048576∧x.upper.size≤1048576:=fun x hx=>⟨(h.t x hx).lo.sz,(h.t x hx).up.sz⟩
end Go.VC
namespace Go.VC.T07
open Go Go.VC Go.Proofs
abbrev chkPV (de:D) (c0:S) (c1 c2 c3 c4:D):PV:=.agg [.lst 40 de,.str c0,.lst 51 c1,.lst 101 c2,.lst 106 c3,.lst 119 c4]
theorem hg89 {p:Pm} (hf:Ty.le 4294967295 p.bound) {b0:S} {b1 b2:Int} {b3 b4:S} {b5 b6:D} {K:PV→List Ob→Prop} (hp:pmIs p b0 b1 b2 b3 b4 b5 b6) (h:∀ b,b=wrongT p→K (.bool b) []):
  FC Tryz.prog tt 89 [] [pmPV b0 b1 b2 b3 b4 b5 b6] K:=by
 obtain ⟨p0,p1,p2⟩:=hp
 unfold wrongT at h
 rw [← p1] at h
 refine FC.enter (G:=g89) tt_ok mixed ⟨Tryz.func89,by rfl,rfl⟩ rfl rfl rfl ?_
 intro A C L X
 have hneg:=negA X.a
 have hlt:=ltA X.a
 cbv
 repeat' (first|apply And.intro|exact fun (_:FF)=>by kernel_rfl|(intro h2;cbv)|apply Or.inl|(refine X.call (F90 _ hf p2 (u:=Ty.zero) ⟨rfl,rfl,rfl,rfl,rfl⟩ fun b hb=> ?_);cbv))
 ·have e1:A.lt b1 0=false:=by assumption
  have e2:A.lt 2 b1=false:=by assumption
  rw [hlt] at e1 e2
  refine h _ ?_
  rw [e1,e2,←hb];exact hneg b
 ·have e1:A.lt b1 0=false:=by assumption
  have e2:A.lt 2 b1=true:=by assumption
  rw [hlt] at e1 e2
  refine h _ ?_
  rw [e1,e2];rfl
 ·have e1:A.lt b1 0=true:=by assumption
  rw [hlt] at e1
  refine h _ ?_
  rw [e1];rfl
theorem hg94 {p:Pm} (hf:Ty.le 4294967295 p.bound) {b0:S} {b1 b2:Int} {b3 b4:S} {b5 b6:D} {K:PV→List Ob→Prop} (hp:pmIs p b0 b1 b2 b3 b4 b5 b6) (h:∀ b,b=wrongV p→K (.bool b) []):
  FC Tryz.prog tt 94 [] [pmPV b0 b1 b2 b3 b4 b5 b6] K:=by
 refine FC.enter (G:=g94) tt_ok mixed ⟨Tryz.func94,by rfl,rfl⟩ rfl rfl rfl ?_
 intro A C L X
 have q:=h (A.not (A.eq b1 0)) (by rw [X.a,hp.2.1];rfl)
 cbv
 exact q
theorem F88_89 {l:List Pm} {d:D} (hf:∀ p∈l,Ty.le 4294967295 p.bound) {de:D} {c0:S} {c1 c2 c3 c4:D} {K:PV→List Ob→Prop} (hd:d=encL encPm l)
  (h:∀ r:Int,r=paramE wrongT l→K (.int .i64 r) []):
  FC Tryz.prog tt 88 [] [chkPV de c0 c1 c2 c3 c4,.lst 53 d,.clos 89 []] K:=by
 refine FC.enter (G:=g88) tt_ok mixed ⟨Tryz.func88,by rfl,rfl⟩ rfl rfl rfl ?_
 intro A C L X
 have hneg:=negA X.a
 have hsq:=sqA X.a
 have l1:A.len d=Int.ofNat l.length:=lenIs X.a hd
 obtain ⟨n_d,hn_d,hlen_d⟩:=lenOf hd
 cbv
 repeat' (first|apply And.intro|exact fun (_:FF)=>by kernel_rfl|(intro h2;cbv)|apply Or.inl)
 ·have h2:A.lt 8 (A.len d)=true:=h2
  rw [l1,X.a,Std_lt] at h2
  refine h _ ?_
  have:8<l.length:=by have:=of_decide_eq_true h2;simp only [Int.ofNat_eq_natCast] at this;omega
  rw [paramE,if_pos this]
 have hl8:¬8<l.length:=by
  have h2:A.lt 8 (A.len d)=false:=h2
  rw [l1,X.a,Std_lt] at h2
  have:=of_decide_eq_false h2;simp only [Int.ofNat_eq_natCast] at this;omega
 rw [paramE,if_neg hl8] at h
 clear h2
 cbv
 refine X.loop (fun (i:Nat)=>⟨[(14,.int .i64 i),(13,.int .i64 (A.len d)),(12,.lst 53 d),(2,.clos 89 [])],[]⟩) (fun i=>i≤n_d∧paramL wrongT 0 l=paramL wrongT i (l.drop i)) (fun i=>n_d-i) 0 ⟨Nat.zero_le _,rfl⟩ ?_ ?_
 ·(cbv;repeat' apply And.intro);all_goals try first|trivial|rfl|(rw [X.a];rfl)
 rintro i ⟨hi,hq⟩
 cbv
 refine ⟨fun h1=> ?_,fun h1=> ?_⟩
 ·have h5:i<l.length:=by obtain rfl:=X.a;simp only [hlen_d,SD,bNot] at h1;omega
  have k1:=pmIsAt X.a hd h5
  have k0:=k1.1
  have hid:A.idx (Int.ofNat i) (A.len d):=by rw [X.a,hd];exact leaf_idx h5
  have hin:A.inr .i64 (A.add (Int.ofNat i) 1):=by rw [X.a];exact leaf_inc h5 (by omega)
  have hcat:∀ r,A.sapp [35] r=35::r:=by rw [X.a];exact fun _=>rfl
  rw [List.drop_eq_getElem_cons h5,paramL] at hq
  cbv
  repeat' (first|apply And.intro|exact fun (_:FF)=>by kernel_rfl|(intro h2;cbv)|apply Or.inl)
  any_goals exact hid
  refine X.call (F146 (i:=i) (by omega) fun r hr=> ?_)
  have hri:A.inr .i64 (A.add (A.slen [35]) (A.slen r)):=by
   have h8:r.length=1:=by rw [hr,Go.Lib.decDigits,dif_pos (by omega)];rfl
   rw [X.a,Std_inr64,Std_add,Std_slen,Std_slen,h8];decide
  have e1:A.not (A.seq (A.asStr (A.cell d (Int.ofNat i) 0)) (A.sapp [35] r))= !(l[i].name==pmNm i):=by
   rw [hneg,hsq,k0,hcat,hr];rfl
  cbv
  repeat' (first|apply And.intro|exact fun (_:FF)=>by kernel_rfl|(intro h2;cbv)|apply Or.inl|(refine X.call (hg89 (hf _ (List.getElem_mem h5)) k1 fun b hb=> ?_);cbv))
  any_goals first|exact hin|exact hri
  ·have h2:A.not (A.seq (A.asStr (A.cell d (Int.ofNat i) 0)) (A.sapp [35] r))=true:=by assumption
   rw [e1] at h2
   refine h _ ?_
   rw [hq,if_pos (by intro e;rw [e] at h2;simp at h2)]
  ·have h2:A.not (A.seq (A.asStr (A.cell d (Int.ofNat i) 0)) (A.sapp [35] r))=false:=by assumption
   have h3:b=true:=by assumption
   rw [e1] at h2
   refine h _ ?_
   rw [hq,if_neg (by simpa using h2),if_pos (by rw [← hb,h3])]
  ·have h2:A.not (A.seq (A.asStr (A.cell d (Int.ofNat i) 0)) (A.sapp [35] r))=false:=by assumption
   have h3:b=false:=by assumption
   rw [e1] at h2
   refine ⟨i+1,⟨by omega,?_⟩,by omega,?_⟩
   ·rw [hq,if_neg (by simpa using h2),if_neg (by rw [← hb,h3];decide)]
   (cbv;repeat' apply And.intro);all_goals try first|trivial|rfl|(rw [X.a];rfl)
 ·have h5:i=n_d:=by obtain rfl:=X.a;simp only [hlen_d,SD,bNot] at h1;omega
  cbv
  refine h 0 ?_
  rw [hq,h5,hn_d,List.drop_length];rfl
theorem F88_94 {l:List Pm} {d:D} (hf:∀ p∈l,Ty.le 4294967295 p.bound) {de:D} {c0:S} {c1 c2 c3 c4:D} {K:PV→List Ob→Prop} (hd:d=encL encPm l)
  (h:∀ r:Int,r=paramE wrongV l→K (.int .i64 r) []):
  FC Tryz.prog tt 88 [] [chkPV de c0 c1 c2 c3 c4,.lst 53 d,.clos 94 []] K:=by
 refine FC.enter (G:=g88) tt_ok mixed ⟨Tryz.func88,by rfl,rfl⟩ rfl rfl rfl ?_
 intro A C L X
 have hneg:=negA X.a
 have hsq:=sqA X.a
 have l1:A.len d=Int.ofNat l.length:=lenIs X.a hd
 obtain ⟨n_d,hn_d,hlen_d⟩:=lenOf hd
 cbv
 repeat' (first|apply And.intro|exact fun (_:FF)=>by kernel_rfl|(intro h2;cbv)|apply Or.inl)
 ·have h2:A.lt 8 (A.len d)=true:=h2
  rw [l1,X.a,Std_lt] at h2
  refine h _ ?_
  have:8<l.length:=by have:=of_decide_eq_true h2;simp only [Int.ofNat_eq_natCast] at this;omega
  rw [paramE,if_pos this]
 have hl8:¬8<l.length:=by
  have h2:A.lt 8 (A.len d)=false:=h2
  rw [l1,X.a,Std_lt] at h2
  have:=of_decide_eq_false h2;simp only [Int.ofNat_eq_natCast] at this;omega
 rw [paramE,if_neg hl8] at h
 clear h2
 cbv
 refine X.loop (fun (i:Nat)=>⟨[(14,.int .i64 i),(13,.int .i64 (A.len d)),(12,.lst 53 d),(2,.clos 94 [])],[]⟩) (fun i=>i≤n_d∧paramL wrongV 0 l=paramL wrongV i (l.drop i)) (fun i=>n_d-i) 0 ⟨Nat.zero_le _,rfl⟩ ?_ ?_
 ·(cbv;repeat' apply And.intro);all_goals try first|trivial|rfl|(rw [X.a];rfl)
 rintro i ⟨hi,hq⟩
 cbv
 refine ⟨fun h1=> ?_,fun h1=> ?_⟩
 ·have h5:i<l.length:=by obtain rfl:=X.a;simp only [hlen_d,SD,bNot] at h1;omega
  have k1:=pmIsAt X.a hd h5
  have k0:=k1.1
  have hid:A.idx (Int.ofNat i) (A.len d):=by rw [X.a,hd];exact leaf_idx h5
  have hin:A.inr .i64 (A.add (Int.ofNat i) 1):=by rw [X.a];exact leaf_inc h5 (by omega)
  have hcat:∀ r,A.sapp [35] r=35::r:=by rw [X.a];exact fun _=>rfl
  rw [List.drop_eq_getElem_cons h5,paramL] at hq
  cbv
  repeat' (first|apply And.intro|exact fun (_:FF)=>by kernel_rfl|(intro h2;cbv)|apply Or.inl)
  any_goals exact hid
  refine X.call (F146 (i:=i) (by omega) fun r hr=> ?_)
  have hri:A.inr .i64 (A.add (A.slen [35]) (A.slen r)):=by
   have h8:r.length=1:=by rw [hr,Go.Lib.decDigits,dif_pos (by omega)];rfl
   rw [X.a,Std_inr64,Std_add,Std_slen,Std_slen,h8];decide
  have e1:A.not (A.seq (A.asStr (A.cell d (Int.ofNat i) 0)) (A.sapp [35] r))= !(l[i].name==pmNm i):=by
   rw [hneg,hsq,k0,hcat,hr];rfl
  cbv
  repeat' (first|apply And.intro|exact fun (_:FF)=>by kernel_rfl|(intro h2;cbv)|apply Or.inl|(refine X.call (hg94 (hf _ (List.getElem_mem h5)) k1 fun b hb=> ?_);cbv))
  any_goals first|exact hin|exact hri
  ·have h2:A.not (A.seq (A.asStr (A.cell d (Int.ofNat i) 0)) (A.sapp [35] r))=true:=by assumption
   rw [e1] at h2
   refine h _ ?_
   rw [hq,if_pos (by intro e;rw [e] at h2;simp at h2)]
  ·have h2:A.not (A.seq (A.asStr (A.cell d (Int.ofNat i) 0)) (A.sapp [35] r))=false:=by assumption
   have h3:b=true:=by assumption
   rw [e1] at h2
   refine h _ ?_
   rw [hq,if_neg (by simpa using h2),if_pos (by rw [← hb,h3])]
  ·have h2:A.not (A.seq (A.asStr (A.cell d (Int.ofNat i) 0)) (A.sapp [35] r))=false:=by assumption
   have h3:b=false:=by assumption
   rw [e1] at h2
   refine ⟨i+1,⟨by omega,?_⟩,by omega,?_⟩
   ·rw [hq,if_neg (by simpa using h2),if_neg (by rw [← hb,h3];decide)]
   (cbv;repeat' apply And.intro);all_goals try first|trivial|rfl|(rw [X.a];rfl)
 ·have h5:i=n_d:=by obtain rfl:=X.a;simp only [hlen_d,SD,bNot] at h1;omega
  cbv
  refine h 0 ?_
  rw [hq,h5,hn_d,List.drop_length];rfl
def g91a:Cfg:={tt:=tt,n:=19,own:=[3]}
theorem F91 {l:List Pm} {d:D} {K:PV→List Ob→Prop} (hd:d=encL encPm l) (hl:l.length≤1048576) (h:∀ r,r=encL encS (l.map Pm.name)→K (.row 9 0) [.row 9 r true]):
  FC Tryz.prog tt 91 [] [.lst 53 d] K:=by
 refine FC.enterOwn (G:=g91a) tt_ok mixed ⟨Tryz.func91,by rfl,rfl⟩ rfl rfl rfl ?_
 intro A C L X
 obtain ⟨n_d,hn_d,hlen_d⟩:=lenOf hd
 cbv
 refine X.loopP (fun (y:Nat×D)=>⟨[(8,.int .i64 y.1),(7,.int .i64 (A.len d)),(6,.lst 53 d),(3,.row 9 0)],[.row 9 y.2 true]⟩)
  (fun y=>y.1≤n_d∧y.2=encL encS ((l.take y.1).map Pm.name)) (fun y=>n_d-y.1) (0,.list []) ⟨Nat.zero_le _,rfl⟩ ?_ ?_
 ·refine ⟨[0],rfl,?_⟩
  (cbv;repeat' apply And.intro);all_goals try first|trivial|rfl|(rw [X.a];rfl)
 rintro ⟨i,r⟩ ⟨hi,hr⟩
 simp only at hi hr
 cbv
 refine ⟨fun h1=> ?_,fun h1=> ?_⟩
 ·have h5:i<l.length:=by obtain rfl:=X.a;simp only [hlen_d,SD,bNot] at h1;omega
  have k1:=pmIsAt X.a hd h5
  have k0:=k1.1
  have hid:A.idx (Int.ofNat i) (A.len d):=by rw [X.a,hd];exact leaf_idx h5
  have hin:A.inr .i64 (A.add (Int.ofNat i) 1):=by rw [X.a];exact leaf_inc h5 (by omega)
  have hb2:A.bnd (A.add (A.len r) (A.len (A.lit [[.str (A.asStr (A.cell d (Int.ofNat i) 0))]]))) 4294967296:=by
   rw [X.a,hr];simp only [SD,bNot,List.length_map];omega
  have q1:A.app r (A.lit [[.str (A.asStr (A.cell d (Int.ofNat i) 0))]])=encL encS ((l.take (i+1)).map Pm.name):=by
   rw [k0,X.a,hr,map_take h5]
   exact Std_app (k:=[l[i].name])
  cbv
  repeat' (first|apply And.intro|exact fun (_:FF)=>by kernel_rfl|(intro h2;cbv)|apply Or.inl)
  any_goals first|exact hid|exact hin|exact hb2
  refine ⟨(i+1,_),⟨?_,q1⟩,?_,[0],rfl,?_⟩
  ·simp only;omega
  ·simp only;omega
  (cbv;repeat' apply And.intro);all_goals try first|trivial|rfl|(rw [X.a];rfl)
 have h5:i=n_d:=by obtain rfl:=X.a;simp only [hlen_d,SD,bNot] at h1;omega
 subst h5
 rw [hn_d,List.take_length] at hr
 cbv
 exact h r hr
theorem F92 {l:List Int} {d:D} {K:PV→List Ob→Prop} (hd:d=encL (fun j=>[D.int j]) l) (hl:l.length≤1048576) (h:∀ r:Int,r=firstE l→K (.int .i64 r) []):
  FC Tryz.prog tt 92 [] [.lst 32 d] K:=by
 refine FC.enter (G:=g92) tt_ok mixed ⟨Tryz.func92,by rfl,rfl⟩ rfl rfl rfl ?_
 intro A C L X
 have hneg:=negA X.a
 have heq:=eqA X.a
 obtain ⟨n_d,hn_d,hlen_d⟩:=lenOf hd
 cbv
 refine X.loop (fun (i:Nat)=>⟨[(7,.int .i64 i),(6,.int .i64 (A.len d)),(5,.lst 32 d)],[]⟩) (fun i=>i≤n_d∧firstE l=firstE (l.drop i)) (fun i=>n_d-i) 0 ⟨Nat.zero_le _,rfl⟩ ?_ ?_
 ·(cbv;repeat' apply And.intro);all_goals try first|trivial|rfl|(rw [X.a];rfl)
 rintro i ⟨hi,hq⟩
 cbv
 refine ⟨fun h1=> ?_,fun h1=> ?_⟩
 ·have h5:i<l.length:=by obtain rfl:=X.a;simp only [hlen_d,SD,bNot] at h1;omega
  have k0:A.asInt (A.cell d (Int.ofNat i) 0)=l[i]:=by rw [cellAt X.a hd h5,X.a];rfl
  have hid:A.idx (Int.ofNat i) (A.len d):=by rw [X.a,hd];exact leaf_idx h5
  have hin:A.inr .i64 (A.add (Int.ofNat i) 1):=by rw [X.a];exact leaf_inc h5 (by omega)
  rw [List.drop_eq_getElem_cons h5,firstE_cons,←k0] at hq
  cbv
  repeat' (first|apply And.intro|exact fun (_:FF)=>by kernel_rfl|(intro h2;cbv)|apply Or.inl)
  any_goals first|exact hid|exact hin
  ·have h2:A.not (A.eq (A.asInt (A.cell d (Int.ofNat i) 0)) 0)=true:=by assumption
   rw [hneg,heq] at h2
   refine h _ ?_
   rw [hq,if_neg (by simpa using h2)]
  ·have h2:A.not (A.eq (A.asInt (A.cell d (Int.ofNat i) 0)) 0)=false:=by assumption
   rw [hneg,heq] at h2
   refine ⟨i+1,⟨by omega,?_⟩,by omega,?_⟩
   ·rw [hq,if_pos (by simpa using h2)]
   (cbv;repeat' apply And.intro);all_goals try first|trivial|rfl|(rw [X.a];rfl)
 ·have h5:i=n_d:=by obtain rfl:=X.a;simp only [hlen_d,SD,bNot] at h1;omega
  cbv
  refine h 0 ?_
  rw [hq,h5,hn_d,List.drop_length];rfl
end Go.VC.T07
end

section
namespace Go.VC
noncomputable def typE (env:List IF) (i:IF) (x:TE):Int:=
 if paramE wrongT x.params≠0 then paramE wrongT x.params else
 if firstE [wfE env (x.params.map Pm.name) x.lower,wfE env (x.params.map Pm.name) x.upper]≠0 then firstE [wfE env (x.params.map Pm.name) x.lower,wfE env (x.params.map Pm.name) x.upper] else
 if (!respF env x.lower [] x.params|| !respF env x.upper [] x.params)=true then 12 else
 if soundB i x=false then 14 else 0
def valL (env:List IF) (vs:List S):Nat→List Pm→Int
 |_,[]=>0
 |k,p::l=>if wfE env (vs.take k) p.bound≠0 then wfE env (vs.take k) p.bound else valL env vs (k+1) l
def valE (env:List IF) (x:VE):Int:=
 if paramE wrongV x.params≠0 then paramE wrongV x.params else
 if valL env (x.params.map Pm.name) 0 x.params≠0 then valL env (x.params.map Pm.name) 0 x.params else
 wfE env (x.params.map Pm.name) x.ty
def aliasE (env:List IF) (x:AE):Int:=
 if (typeB x.name&&typeB x.target)=true then (typeR env x.module x.target).2.2 else
 if (nameB x.name&&nameB x.target)=true then (valueR env x.module x.target).2.2 else 4
end Go.VC
namespace Go.VC.T07
open Go Go.VC Go.Proofs
theorem F93 {i:IF} (hi:i.fit) {x:TE} (hxf:x.fit) {m:List (S×TE)} (hm:TM m i) {mu:List (S×D)} (hU:UM mu i (fun s=>(tyF i s).isSome=true)) {d dT dU:D} (hd:d=encL encIF [i]) (hT:dT=encL (encKV encTE) m) (hdU:dU=encL (encKV enc1) mu)
  {e0:S} {e1:D} {e2:Int} {e3 e4:S} {e5 e6:D} {e7:Int} {e8 e9:S} {e10 e11:D} (hx:teIs x e0 e1 e2 e3 e4 e5 e6 e7 e8 e9 e10 e11) {K:PV→List Ob→Prop} (h:∀ b,b=soundB i x→K (.bool b) []):
  FC Tryz.prog tt 93 [] [.agg [.lst 40 d,.dmp 51 dT,.dmp 85 dU],tePV e0 e1 e2 e3 e4 e5 e6 e7 e8 e9 e10 e11] K:=by
 have k0:=hx.1
 have k1:=hx.2.1
 refine FC.enter (G:=g93) tt_ok mixed ⟨Tryz.func93,by rfl,rfl⟩ rfl rfl rfl ?_
 intro A C L X
 have hneg:=negA X.a
 have heq:=eqA X.a
 cbv
 refine X.call (FC.g1 (F44 hi.ok.nt hU hdU fun l dl hdl hgm=> ?_))
 rw [k0] at hgm
 have hgr:=hgm.grp
 have hll:l.length≤1048576:=Nat.le_trans (nodup_types hgm.nd fun s hs=>((hgm.mem s).1 hs).1.has) hi.nt
 obtain ⟨n_dl,hn_dl,hlen_dl⟩:=lenOf hdl
 cbv
 refine X.loop (fun (j:Nat)=>⟨[(14,.int .i64 j),(13,.int .i64 (A.len dl)),(12,.row 9 2),(5,.row 9 2),(3,.box 1 0),(2,.box 0 0)],[.box [.lst 40 d,.dmp 51 dT,.dmp 85 dU],.box [.str e0,.lst 53 e1,.int .i64 e2,.str e3,.str e4,.lst 28 e5,.lst 65 e6,.int .i64 e7,.str e8,.str e9,.lst 28 e10,.lst 65 e11],.row 9 dl true]⟩) (fun j=>j≤n_dl∧(l.take j).all (fun s=>((tyF i s).getD TE.zero).params.length==x.params.length)=true) (fun j=>n_dl-j) 0 ⟨Nat.zero_le _,rfl⟩ ?_ ?_
 ·(cbv;repeat' apply And.intro);all_goals try first|trivial|rfl|(rw [X.a];rfl)
 rintro j ⟨hj,hq⟩
 cbv
 refine ⟨fun h1=> ?_,fun h1=> ?_⟩
 ·have h5:j<l.length:=by obtain rfl:=X.a;simp only [hlen_dl,SD,bNot] at h1;omega
  have hid:A.idx (Int.ofNat j) (A.len dl):=by rw [X.a,hdl];exact leaf_idx h5
  have hin:A.inr .i64 (A.add (Int.ofNat j) 1):=by rw [X.a];exact leaf_inc h5 (by omega)
  have hc:A.asStr (A.cell dl (Int.ofNat j) 0)=l[j]:=by rw [cellAt X.a hdl h5,X.a];rfl
  obtain ⟨y,hy⟩:=Option.isSome_iff_exists.1 ((hgm.mem l[j]).1 (List.getElem_mem h5)).1.has
  have hhas:A.mhas dT (.str (A.asStr (A.cell dl (Int.ofNat j) 0)))=true:=by rw [hc,X.a,hT,Std_hasV,hm.get,hy];rfl
  have ky:=teMap X.a hT (k:=A.asStr (A.cell dl (Int.ofNat j) 0)) (by rw [hc,hm.get];exact hy)
  have l1:A.len (A.mget dT (.str (A.asStr (A.cell dl (Int.ofNat j) 0))) 1)=Int.ofNat y.params.length:=lenIs X.a ky.2.1
  have l2:A.len e1=Int.ofNat x.params.length:=lenIs X.a k1
  have hst:(l.take (j+1)).all (fun s=>((tyF i s).getD TE.zero).params.length==x.params.length)=(y.params.length==x.params.length):=by
   rw [take_succ' h5,List.all_append,hq,Bool.true_and,List.all_cons,List.all_nil,Bool.and_true,hy];rfl
  have hbeq:(Int.ofNat y.params.length==Int.ofNat x.params.length)=(y.params.length==x.params.length):=by
   rw [Bool.eq_iff_iff];simp only [beq_iff_eq,Int.ofNat_eq_natCast];omega
  cbv
  repeat' (first|apply And.intro|exact fun (_:FF)=>by kernel_rfl|(intro h2;first|exact absurd ((hhas).symm.trans h2) (by decide)|cbv)|apply Or.inl)
  any_goals first|exact hid|exact hin
  ·have h2:A.not (A.eq (A.len (A.mget dT (.str (A.asStr (A.cell dl (Int.ofNat j) 0))) 1)) (A.len e1))=true:=by assumption
   rw [hneg,heq,l1,l2,hbeq] at h2
   refine h _ ?_
   have hf:(grp i x.name).all (fun s=>((tyF i s).getD TE.zero).params.length==x.params.length)=false:=by
    rw [List.all_eq_false];refine ⟨l[j],by rw [← hgr];exact List.getElem_mem h5,?_⟩;rw [hy];intro e;rw [show (y.params.length==x.params.length)=true from e] at h2;cases h2
   unfold soundB
   rw [if_pos hf]
  ·have h2:A.not (A.eq (A.len (A.mget dT (.str (A.asStr (A.cell dl (Int.ofNat j) 0))) 1)) (A.len e1))=false:=by assumption
   rw [hneg,heq,l1,l2,hbeq] at h2
   refine ⟨j+1,⟨by omega,?_⟩,by omega,?_⟩
   ·rw [hst];simpa using h2
   (cbv;repeat' apply And.intro);all_goals try first|trivial|rfl|(rw [X.a];rfl)
 ·have h5:j=n_dl:=by obtain rfl:=X.a;simp only [hlen_dl,SD,bNot] at h1;omega
  rw [h5,hn_dl,List.take_length,hgr] at hq
  have hll2:l.length≤4294967295:=Nat.le_trans hll (by decide)
  unfold soundB at h
  rw [if_neg (by rw [hq];decide),←hgr] at h
  cbv
  repeat' (first|apply And.intro|exact fun (_:FF)=>by kernel_rfl|(intro h2;cbv)|apply Or.inl|(refine X.call (FC.g3 (F150 hi.ok hm hd hT hdl hll2 _ hxf.lo.le hx.2.2.1 fun b1 hb1=> ?_));cbv)|(refine X.call (FC.g3 (F150 hi.ok hm hd hT hdl hll2 _ hxf.up.le hx.2.2.2 fun b2 hb2=> ?_));cbv)|(refine X.call (FC.g3 (F151 hi.ok hm hd hT hdl hll2 hx _ hxf.lo.le (Nat.le_trans hxf.lo.sz (by decide)) hx.2.2.1 fun b3 hb3=> ?_));cbv)|(refine X.call (FC.g3 (F151 hi.ok hm hd hT hdl hll2 hx _ hxf.up.le (Nat.le_trans hxf.up.sz (by decide)) hx.2.2.2 fun b4 hb4=> ?_));cbv))
  all_goals refine h _ ?_
  all_goals (try rw [← hb1])
  all_goals (try rw [← hb2])
  all_goals (try rw [← hb3])
  all_goals (try rw [← hb4])
  ·rw [show b1=true by assumption,show b2=true by assumption,show b3=true by assumption];rfl
  ·rw [show b1=true by assumption,show b2=true by assumption,show b3=false by assumption];rfl
  ·rw [show b1=true by assumption,show b2=false by assumption];rfl
  ·rw [show b1=false by assumption];rfl
theorem F52 {env:List IF} {de:D} (he:de=encL encIF env) (hok:envOk env) {i:IF} (hi:i.fit) {x:TE} (hxf:x.fit)
  {c0:S} {c1 c2 c3 c4:D} (hc:ifIs i c0 c1 c2 c3 c4) {e0:S} {e1:D} {e2:Int} {e3 e4:S} {e5 e6:D} {e7:Int} {e8 e9:S} {e10 e11:D} (hx:teIs x e0 e1 e2 e3 e4 e5 e6 e7 e8 e9 e10 e11) {K:PV→List Ob→Prop} (h:∀ r:Int,r=typE env i x→K (.int .i64 r) []):
  FC Tryz.prog tt 52 [] [chkPV de c0 c1 c2 c3 c4,tePV e0 e1 e2 e3 e4 e5 e6 e7 e8 e9 e10 e11] K:=by
 have k1:=hx.2.1
 have hpl:∀ {r:D},r=encL encS (x.params.map Pm.name)→(x.params.map Pm.name).length≤4294967295:=fun _=>by rw [List.length_map];exact Nat.le_trans hxf.np (by decide)
 have hpp:∀ p∈x.params,Ty.le 4294967295 p.bound:=fun p hp=>(hxf.p p hp).le
 have hnp:x.params.length≤4294967295:=Nat.le_trans hxf.np (by decide)
 have hs1:x.lower.size≤4294967295:=Nat.le_trans hxf.lo.sz (by decide)
 have hs2:x.upper.size≤4294967295:=Nat.le_trans hxf.up.sz (by decide)
 refine FC.enter (G:=g52) tt_ok mixed ⟨Tryz.func52,by rfl,rfl⟩ rfl rfl rfl ?_
 intro A C L X
 have hneg:=negA X.a
 have heq:=eqA X.a
 have hlit:∀ a b:Int,A.lit [[.int a],[.int b]]=encL (fun j=>[D.int j]) [a,b]:=by rw [X.a];exact fun _ _=>rfl
 unfold typE at h
 cbv
 refine X.call (F88_89 hpp k1 fun r0 hr0=> ?_)
 rw [← hr0] at h
 cbv
 repeat' (first|apply And.intro|exact fun (_:FF)=>by kernel_rfl|(intro h2;cbv)|apply Or.inl)
 ·have h2:A.not (A.eq r0 0)=true:=h2
  rw [hneg,heq] at h2
  exact h _ (by rw [if_pos (by simpa using h2)])
 have h2:A.not (A.eq r0 0)=false:=h2
 rw [hneg,heq] at h2
 rw [if_neg (by simpa using h2)] at h
 refine X.call (F91 k1 hxf.np fun vs hvs=> ?_)
 have hvl:=hpl hvs
 cbv
 repeat' (first|apply And.intro|exact fun (_:FF)=>by kernel_rfl|(intro h2;cbv)|apply Or.inl|(refine X.call (F10 he hok hvs hvl hxf.lo.le hs1 hxf.lo.nod hx.2.2.1 fun r1 hr1=> ?_);cbv)|(refine X.call (F10 he hok hvs hvl hxf.up.le hs2 hxf.up.nod hx.2.2.2 fun r2 hr2=> ?_);cbv))
 refine X.call (F92 (hlit r1 r2) (show (2:Nat)≤1048576 by decide) fun r3 hr3=> ?_)
 rw [← hr1,←hr2,←hr3] at h
 clear h2
 cbv
 repeat' (first|apply And.intro|exact fun (_:FF)=>by kernel_rfl|(intro h2;cbv)|apply Or.inl)
 ·have h2:A.not (A.eq r3 0)=true:=h2
  rw [hneg,heq] at h2
  exact h _ (by rw [if_pos (by simpa using h2)])
 have h2:A.not (A.eq r3 0)=false:=h2
 rw [hneg,heq] at h2
 rw [if_neg (by simpa using h2)] at h
 clear h2
 cbv
 repeat' (first|apply And.intro|exact fun (_:FF)=>by kernel_rfl|(intro h2;cbv)|apply Or.inl|(refine X.call (F18 he hok k1 hnp hxf.lo.le hx.2.2.1 fun b1 hb1=> ?_);cbv)|(refine X.call (F18 he hok k1 hnp hxf.up.le hx.2.2.2 fun b2 hb2=> ?_);cbv)|(refine X.call (F43 hi.ok hi.hsz hi.rf hc fun m mu dA dT dU hm hmu hdA hdT hdU=> ?_);cbv)|(refine X.call (F93 hi hxf hm hmu hdA hdT hdU hx fun b3 hb3=> ?_);cbv))
 all_goals refine h _ ?_
 all_goals clear h hr1 hr2 hr3 hr0
 all_goals (try simp only [hneg] at *)
 all_goals (try subst hb1)
 all_goals (try subst hb2)
 all_goals (try subst hb3)
 all_goals simp_all [bNot]
theorem F58 {env:List IF} {de:D} (he:de=encL encIF env) (hok:envOk env) {x:AE} (hxf:x.fit)
  {c0:S} {c1 c2 c3 c4:D} {e0 e1 e2:S} (hx:aeIs x e0 e1 e2) {K:PV→List Ob→Prop} (h:∀ r:Int,r=aliasE env x→K (.int .i64 r) []):
  FC Tryz.prog tt 58 [] [chkPV de c0 c1 c2 c3 c4,aePV e0 e1 e2] K:=by
 obtain ⟨x0,x1,x2⟩:=hx
 have hl0:e0.length≤4294967295:=by rw [x0];exact Nat.le_trans hxf.n (by decide)
 have hl2:e2.length≤4294967295:=by rw [x2];exact Nat.le_trans hxf.g (by decide)
 unfold aliasE at h
 rw [← x0,←x1,←x2] at h
 refine FC.enter (G:=g58) tt_ok mixed ⟨Tryz.func58,by rfl,rfl⟩ rfl rfl rfl ?_
 intro A C L X
 cbv
 repeat' (first|apply And.intro|exact fun (_:FF)=>by kernel_rfl|(intro h2;cbv)|apply Or.inl|(refine X.call (F95 hl0 fun b1 hb1=> ?_);cbv)|(refine X.call (F95 hl2 fun b2 hb2=> ?_);cbv)|(refine X.call (F96 hl0 fun b3 hb3=> ?_);cbv)|(refine X.call (F96 hl2 fun b4 hb4=> ?_);cbv)|(refine X.call (F49 he hok fun _ _ _ _ _ _ _ _ _ _ _ _ r1 r2 _ hr1 hr2=> ?_);cbv)|(refine X.call (F97 he hok fun _ _ _ _ _ _ _ r1 r2 _ hr1 hr2=> ?_);cbv))
 all_goals refine h _ ?_
 all_goals clear h
 all_goals (try subst hb1)
 all_goals (try subst hb2)
 all_goals (try subst hb3)
 all_goals (try subst hb4)
 all_goals simp_all [bNot]
theorem F55 {env:List IF} {de:D} (he:de=encL encIF env) (hok:envOk env) {x:VE} (hxf:x.fit)
  {c0:S} {c1 c2 c3 c4:D} {e0:S} {e1:D} {e2:Int} {e3 e4:S} {e5 e6:D} (hx:veIs x e0 e1 e2 e3 e4 e5 e6) {K:PV→List Ob→Prop} (h:∀ r:Int,r=valE env x→K (.int .i64 r) []):
  FC Tryz.prog tt 55 [] [chkPV de c0 c1 c2 c3 c4,vePV e0 e1 e2 e3 e4 e5 e6] K:=by
 have k1:=hx.2.1
 have hpl:(x.params.map Pm.name).length≤1048576:=by rw [List.length_map];exact hxf.np
 have hpp:∀ p∈x.params,Ty.le 4294967295 p.bound:=fun p hp=>(hxf.p p hp).le
 have hnp:x.params.length≤4294967295:=Nat.le_trans hxf.np (by decide)
 have hs1:x.ty.size≤4294967295:=Nat.le_trans hxf.ty.sz (by decide)
 refine FC.enter (G:=g55) tt_ok mixed ⟨Tryz.func55,by rfl,rfl⟩ rfl rfl rfl ?_
 intro A C L X
 have hneg:=negA X.a
 have heq:=eqA X.a
 unfold valE at h
 cbv
 refine X.call (F88_94 hpp k1 fun r0 hr0=> ?_)
 rw [← hr0] at h
 cbv
 repeat' (first|apply And.intro|exact fun (_:FF)=>by kernel_rfl|(intro h2;cbv)|apply Or.inl)
 ·have h2:A.not (A.eq r0 0)=true:=h2
  rw [hneg,heq] at h2
  exact h _ (by rw [if_pos (by simpa using h2)])
 have h2:A.not (A.eq r0 0)=false:=h2
 rw [hneg,heq] at h2
 rw [if_neg (by simpa using h2)] at h
 refine X.call (F91 k1 hxf.np fun vs hvs=> ?_)
 obtain ⟨n_e1,hn_e1,hlen_e1⟩:=lenOf k1
 cbv
 refine X.loop (fun (j:Nat×Bool)=>⟨[(23,.int .i64 j.1),(22,.int .i64 (A.len e1)),(21,.lst 53 e1),(6,.row 9 2),(3,.box 1 0),(2,.box 0 0)],[.box [.lst 40 de,.str c0,.lst 51 c1,.lst 101 c2,.lst 106 c3,.lst 119 c4],.box [.str e0,.lst 53 e1,.int .i64 e2,.str e3,.str e4,.lst 28 e5,.lst 65 e6],.row 9 vs j.2]⟩) (fun j=>j.1≤n_e1∧valL env (x.params.map Pm.name) 0 x.params=valL env (x.params.map Pm.name) j.1 (x.params.drop j.1)) (fun j=>n_e1-j.1) (0,true) ⟨Nat.zero_le _,rfl⟩ ?_ ?_
 ·(cbv;repeat' apply And.intro);all_goals try first|trivial|rfl|(rw [X.a];rfl)
 rintro ⟨j,fl⟩ ⟨hj,hq⟩
 simp only at hj hq
 cbv
 refine ⟨fun h1=> ?_,fun h1=> ?_⟩
 ·have h5:j<x.params.length:=by obtain rfl:=X.a;simp only [hlen_e1,SD,bNot] at h1;omega
  have k2:=pmIsAt X.a k1 h5
  have hid:A.idx (Int.ofNat j) (A.len e1):=by rw [X.a,k1];exact leaf_idx h5
  have hin:A.inr .i64 (A.add (Int.ofNat j) 1):=by rw [X.a];exact leaf_inc h5 (by omega)
  cbv
  have hvt:A.part vs 0 (Int.ofNat j)=encL encS ((x.params.map Pm.name).take j):=by rw [X.a,hvs,Std_partI];simp
  have hvl:((x.params.map Pm.name).take j).length≤4294967295:=Nat.le_trans (List.length_take_le' _ _) (Nat.le_trans hpl (by decide))
  have hbd:(hxf.p _ (List.getElem_mem h5)).le=(hxf.p _ (List.getElem_mem h5)).le:=rfl
  have hbs:x.params[j].bound.size≤4294967295:=Nat.le_trans (hxf.p _ (List.getElem_mem h5)).sz (by decide)
  have hb0:A.bnd 0 (Int.ofNat j):=by rw [X.a];simp only [SD,bNot];omega
  have hb1:A.bnd (Int.ofNat j) (A.len vs):=by rw [X.a,hvs];simp only [SD,bNot,List.length_map];omega
  rw [List.drop_eq_getElem_cons h5,valL] at hq
  cbv
  repeat' (first|apply And.intro|exact fun (_:FF)=>by kernel_rfl|(intro h2;cbv)|apply Or.inl)
  any_goals first|exact hid|exact hb0|exact hb1
  refine X.call (F10 he hok hvt hvl (hxf.p _ (List.getElem_mem h5)).le hbs (hxf.p _ (List.getElem_mem h5)).nod k2.2.2 fun r1 hr1=> ?_)
  rw [← hr1] at hq
  cbv
  repeat' (first|apply And.intro|exact fun (_:FF)=>by kernel_rfl|(intro h2;cbv)|apply Or.inl)
  any_goals exact hin
  ·have h2:A.not (A.eq r1 0)=true:=by assumption
   rw [hneg,heq] at h2
   rw [if_pos (by simpa using h2)] at hq
   refine h _ ?_
   rw [hq,if_pos (by simpa using h2)]
  ·have h2:A.not (A.eq r1 0)=false:=by assumption
   rw [hneg,heq] at h2
   have h4:r1=0:=by simpa using h2
   rw [if_neg (by rw [h4];decide)] at hq
   refine ⟨(j+1,false),⟨by simp only;omega,hq⟩,by simp only;omega,?_⟩
   (cbv;repeat' apply And.intro);all_goals try first|trivial|rfl|(rw [X.a];rfl)
 ·have h5:j=n_e1:=by obtain rfl:=X.a;simp only [hlen_e1,SD,bNot] at h1;omega
  have hz:valL env (x.params.map Pm.name) 0 x.params=0:=by rw [hq,h5,hn_e1,List.drop_length];rfl
  rw [hz,if_neg (by decide)] at h
  cbv
  refine X.call (F10 he hok hvs (Nat.le_trans hpl (by decide)) hxf.ty.le hs1 hxf.ty.nod hx.2.2 fun r1 hr1=> ?_)
  cbv
  exact h r1 hr1
end Go.VC.T07
end

section
namespace Go.VC
noncomputable def entryE (env:List IF) (p n:S):Int:=
 match findI env p with
 |none=>6
 |some i=>
  match i.types.find? fun y=>y.name==n with
  |some x=>typE env i x
  |none=>
  match i.values.find? fun y=>y.name==n with
  |some x=>valE env x
  |none=>
  match i.aliases.find? fun y=>y.name==n with
  |some x=>aliasE env x
  |none=>6
end Go.VC
namespace Go.VC.T07
open Go Go.VC Go.Proofs
theorem F50_51 {l:List TE} {d:D} {p:TE→Bool} {s:S} {K:PV→List Ob→Prop} (hd:d=encL encTE l) (hl:l.length≤4294967295)
  (hg:∀ x∈l,∀ (c0:S) (c1:D) (c2:Int) (c3:S) (c4:S) (c5:D) (c6:D) (c7:Int) (c8:S) (c9:S) (c10:D) (c11:D) (K':PV→List Ob→Prop),teIs x c0 c1 c2 c3 c4 c5 c6 c7 c8 c9 c10 c11→(∀ b,b=p x→K' (.bool b) [])→FC Tryz.prog tt 51 [] [tePV c0 c1 c2 c3 c4 c5 c6 c7 c8 c9 c10 c11,.pptr [.str s] 0] K')
  (h:∀ r:Int,r=idxF p l→K (.int .i64 r) []):
  FC Tryz.prog tt 50 [] [.lst 51 d,.clos 51 [.pptr [.str s] 0]] K:=by
 refine FC.enter (G:=g50) tt_ok mixed ⟨Tryz.func50,by rfl,rfl⟩ rfl rfl rfl ?_
 intro A C L X
 obtain ⟨n_d,hn_d,hlen_d⟩:=lenOf hd
 cbv
 refine X.loop (fun (i:Nat)=>⟨[(8,.int .i64 i),(7,.int .i64 (A.len d)),(1,.clos 51 [.pptr [.str s] 0]),(0,.lst 51 d)],[]⟩) (fun i=>i≤n_d∧∀ x∈l.take i,p x=false) (fun i=>n_d-i) 0 ⟨Nat.zero_le _,by simp⟩ ?_ ?_
 ·(cbv;repeat' apply And.intro);all_goals try first|trivial|rfl|(rw [X.a];rfl)
 rintro i ⟨hi,ha⟩
 cbv
 refine ⟨fun h1=> ?_,fun h1=> ?_⟩
 ·have h5:i<l.length:=by obtain rfl:=X.a;simp only [hlen_d,SD,bNot] at h1;omega
  have k1:=teIsAt X.a hd h5
  have hid:A.idx (Int.ofNat i) (A.len d):=by rw [X.a,hd];exact leaf_idx h5
  have hin:A.inr .i64 (A.add (Int.ofNat i) 1):=by rw [X.a];exact leaf_inc h5 (by omega)
  cbv
  repeat' (first|apply And.intro|exact fun (_:FF)=>by kernel_rfl|(intro h2;cbv)|apply Or.inl)
  any_goals exact hid
  refine X.call (hg _ (List.getElem_mem h5) _ _ _ _ _ _ _ _ _ _ _ _ _ k1 fun b hb=> ?_)
  have hb':b=p l[i]:=hb
  clear hb
  cbv
  repeat' (first|apply And.intro|exact fun (_:FF)=>by kernel_rfl|(intro h2;cbv)|apply Or.inl)
  any_goals exact hin
  ·refine h i ?_
   exact (idxF_some h5 ha (by rw [← hb'];obtain rfl:=X.a;simpa only [SD,bNot] using h2)).symm
  ·have hf:p l[i]=false:=by rename_i h3;rw [← hb'];obtain rfl:=X.a;simpa only [SD,bNot] using h3
   refine ⟨i+1,⟨by omega,?_⟩,by omega,?_⟩
   ·rw [take_succ' h5];intro x hx
    rcases List.mem_append.1 hx with hx|hx
    ·exact ha x hx
    ·simp at hx;subst hx;exact hf
   (cbv;repeat' apply And.intro);all_goals try first|trivial|rfl|(rw [X.a];rfl)
 ·have h5:i=n_d:=by obtain rfl:=X.a;simp only [hlen_d,SD,bNot] at h1;omega
  subst h5
  cbv
  refine h (-1) ?_
  rw [hn_d,List.take_length] at ha
  exact (idxF_none ha).symm
theorem F51 {x:TE} {s:S} {c0:S} {c1:D} {c2:Int} {c3:S} {c4:S} {c5:D} {c6:D} {c7:Int} {c8:S} {c9:S} {c10:D} {c11:D} {K:PV→List Ob→Prop} (hx:teIs x c0 c1 c2 c3 c4 c5 c6 c7 c8 c9 c10 c11) (h:∀ b,b=(x.name==s)→K (.bool b) []):FC Tryz.prog tt 51 [] [tePV c0 c1 c2 c3 c4 c5 c6 c7 c8 c9 c10 c11,.pptr [.str s] 0] K:=by
 refine FC.enter (G:=g51) tt_ok mixed ⟨Tryz.func51,by rfl,rfl⟩ rfl rfl rfl ?_
 intro A C L X
 have q:=h (A.seq c0 s) (by rw [X.a,hx.1];rfl)
 cbv
 exact q
theorem F53_54 {l:List VE} {d:D} {p:VE→Bool} {s:S} {K:PV→List Ob→Prop} (hd:d=encL encVE l) (hl:l.length≤4294967295)
  (hg:∀ x∈l,∀ (c0:S) (c1:D) (c2:Int) (c3:S) (c4:S) (c5:D) (c6:D) (K':PV→List Ob→Prop),veIs x c0 c1 c2 c3 c4 c5 c6→(∀ b,b=p x→K' (.bool b) [])→FC Tryz.prog tt 54 [] [vePV c0 c1 c2 c3 c4 c5 c6,.pptr [.str s] 0] K')
  (h:∀ r:Int,r=idxF p l→K (.int .i64 r) []):
  FC Tryz.prog tt 53 [] [.lst 101 d,.clos 54 [.pptr [.str s] 0]] K:=by
 refine FC.enter (G:=g53) tt_ok mixed ⟨Tryz.func53,by rfl,rfl⟩ rfl rfl rfl ?_
 intro A C L X
 obtain ⟨n_d,hn_d,hlen_d⟩:=lenOf hd
 cbv
 refine X.loop (fun (i:Nat)=>⟨[(8,.int .i64 i),(7,.int .i64 (A.len d)),(1,.clos 54 [.pptr [.str s] 0]),(0,.lst 101 d)],[]⟩) (fun i=>i≤n_d∧∀ x∈l.take i,p x=false) (fun i=>n_d-i) 0 ⟨Nat.zero_le _,by simp⟩ ?_ ?_
 ·(cbv;repeat' apply And.intro);all_goals try first|trivial|rfl|(rw [X.a];rfl)
 rintro i ⟨hi,ha⟩
 cbv
 refine ⟨fun h1=> ?_,fun h1=> ?_⟩
 ·have h5:i<l.length:=by obtain rfl:=X.a;simp only [hlen_d,SD,bNot] at h1;omega
  have k1:=veIsAt X.a hd h5
  have hid:A.idx (Int.ofNat i) (A.len d):=by rw [X.a,hd];exact leaf_idx h5
  have hin:A.inr .i64 (A.add (Int.ofNat i) 1):=by rw [X.a];exact leaf_inc h5 (by omega)
  cbv
  repeat' (first|apply And.intro|exact fun (_:FF)=>by kernel_rfl|(intro h2;cbv)|apply Or.inl)
  any_goals exact hid
  refine X.call (hg _ (List.getElem_mem h5) _ _ _ _ _ _ _ _ k1 fun b hb=> ?_)
  have hb':b=p l[i]:=hb
  clear hb
  cbv
  repeat' (first|apply And.intro|exact fun (_:FF)=>by kernel_rfl|(intro h2;cbv)|apply Or.inl)
  any_goals exact hin
  ·refine h i ?_
   exact (idxF_some h5 ha (by rw [← hb'];obtain rfl:=X.a;simpa only [SD,bNot] using h2)).symm
  ·have hf:p l[i]=false:=by rename_i h3;rw [← hb'];obtain rfl:=X.a;simpa only [SD,bNot] using h3
   refine ⟨i+1,⟨by omega,?_⟩,by omega,?_⟩
   ·rw [take_succ' h5];intro x hx
    rcases List.mem_append.1 hx with hx|hx
    ·exact ha x hx
    ·simp at hx;subst hx;exact hf
   (cbv;repeat' apply And.intro);all_goals try first|trivial|rfl|(rw [X.a];rfl)
 ·have h5:i=n_d:=by obtain rfl:=X.a;simp only [hlen_d,SD,bNot] at h1;omega
  subst h5
  cbv
  refine h (-1) ?_
  rw [hn_d,List.take_length] at ha
  exact (idxF_none ha).symm
theorem F54 {x:VE} {s:S} {c0:S} {c1:D} {c2:Int} {c3:S} {c4:S} {c5:D} {c6:D} {K:PV→List Ob→Prop} (hx:veIs x c0 c1 c2 c3 c4 c5 c6) (h:∀ b,b=(x.name==s)→K (.bool b) []):FC Tryz.prog tt 54 [] [vePV c0 c1 c2 c3 c4 c5 c6,.pptr [.str s] 0] K:=by
 refine FC.enter (G:=g54) tt_ok mixed ⟨Tryz.func54,by rfl,rfl⟩ rfl rfl rfl ?_
 intro A C L X
 have q:=h (A.seq c0 s) (by rw [X.a,hx.1];rfl)
 cbv
 exact q
theorem F56_57 {l:List AE} {d:D} {p:AE→Bool} {s:S} {K:PV→List Ob→Prop} (hd:d=encL encAE l) (hl:l.length≤4294967295)
  (hg:∀ x∈l,∀ (c0:S) (c1:S) (c2:S) (K':PV→List Ob→Prop),aeIs x c0 c1 c2→(∀ b,b=p x→K' (.bool b) [])→FC Tryz.prog tt 57 [] [aePV c0 c1 c2,.pptr [.str s] 0] K')
  (h:∀ r:Int,r=idxF p l→K (.int .i64 r) []):
  FC Tryz.prog tt 56 [] [.lst 106 d,.clos 57 [.pptr [.str s] 0]] K:=by
 refine FC.enter (G:=g56) tt_ok mixed ⟨Tryz.func56,by rfl,rfl⟩ rfl rfl rfl ?_
 intro A C L X
 obtain ⟨n_d,hn_d,hlen_d⟩:=lenOf hd
 cbv
 refine X.loop (fun (i:Nat)=>⟨[(8,.int .i64 i),(7,.int .i64 (A.len d)),(1,.clos 57 [.pptr [.str s] 0]),(0,.lst 106 d)],[]⟩) (fun i=>i≤n_d∧∀ x∈l.take i,p x=false) (fun i=>n_d-i) 0 ⟨Nat.zero_le _,by simp⟩ ?_ ?_
 ·(cbv;repeat' apply And.intro);all_goals try first|trivial|rfl|(rw [X.a];rfl)
 rintro i ⟨hi,ha⟩
 cbv
 refine ⟨fun h1=> ?_,fun h1=> ?_⟩
 ·have h5:i<l.length:=by obtain rfl:=X.a;simp only [hlen_d,SD,bNot] at h1;omega
  have k1:=aeIsAt X.a hd h5
  have hid:A.idx (Int.ofNat i) (A.len d):=by rw [X.a,hd];exact leaf_idx h5
  have hin:A.inr .i64 (A.add (Int.ofNat i) 1):=by rw [X.a];exact leaf_inc h5 (by omega)
  cbv
  repeat' (first|apply And.intro|exact fun (_:FF)=>by kernel_rfl|(intro h2;cbv)|apply Or.inl)
  any_goals exact hid
  refine X.call (hg _ (List.getElem_mem h5) _ _ _ _ k1 fun b hb=> ?_)
  have hb':b=p l[i]:=hb
  clear hb
  cbv
  repeat' (first|apply And.intro|exact fun (_:FF)=>by kernel_rfl|(intro h2;cbv)|apply Or.inl)
  any_goals exact hin
  ·refine h i ?_
   exact (idxF_some h5 ha (by rw [← hb'];obtain rfl:=X.a;simpa only [SD,bNot] using h2)).symm
  ·have hf:p l[i]=false:=by rename_i h3;rw [← hb'];obtain rfl:=X.a;simpa only [SD,bNot] using h3
   refine ⟨i+1,⟨by omega,?_⟩,by omega,?_⟩
   ·rw [take_succ' h5];intro x hx
    rcases List.mem_append.1 hx with hx|hx
    ·exact ha x hx
    ·simp at hx;subst hx;exact hf
   (cbv;repeat' apply And.intro);all_goals try first|trivial|rfl|(rw [X.a];rfl)
 ·have h5:i=n_d:=by obtain rfl:=X.a;simp only [hlen_d,SD,bNot] at h1;omega
  subst h5
  cbv
  refine h (-1) ?_
  rw [hn_d,List.take_length] at ha
  exact (idxF_none ha).symm
theorem F57 {x:AE} {s:S} {c0:S} {c1:S} {c2:S} {K:PV→List Ob→Prop} (hx:aeIs x c0 c1 c2) (h:∀ b,b=(x.name==s)→K (.bool b) []):FC Tryz.prog tt 57 [] [aePV c0 c1 c2,.pptr [.str s] 0] K:=by
 refine FC.enter (G:=g57) tt_ok mixed ⟨Tryz.func57,by rfl,rfl⟩ rfl rfl rfl ?_
 intro A C L X
 have q:=h (A.seq c0 s) (by rw [X.a,hx.1];rfl)
 cbv
 exact q
theorem F24 {env:List IF} {de:D} (he:de=encL encIF env) (hok:envOk env) (hfit:∀ i∈env,i.fit) {p n:S} {K:PV→List Ob→Prop} (h:∀ r:Int,r=entryE env p n→K (.int .i64 r) []):
  FC Tryz.prog tt 24 [] [.lst 40 de,.str p,.str n] K:=by
 refine FC.enter (G:=g24) tt_ok mixed ⟨Tryz.func24,by rfl,rfl⟩ rfl rfl rfl ?_
 intro A C L X
 unfold entryE at h
 have hle:∀ r:Int,A.le 0 r=decide (0≤r):=by rw [X.a];exact fun _=>rfl
 cbv
 refine X.call (F32 he hok rfl fun e0 e1 e2 e3 e4 b hx hb=> ?_)
 have hneg:=negA X.a
 cbv
 repeat' (first|apply And.intro|exact fun (_:FF)=>by kernel_rfl|(intro h2;cbv)|apply Or.inl)
 ·have h2:A.not b=true:=h2
  rw [hneg,hb] at h2
  refine h _ ?_
  rw [show findI env p=none by simpa using h2]
 have h2:A.not b=false:=h2
 rw [hneg,hb] at h2
 obtain ⟨i,hfi⟩:∃ i,findI env p=some i:=Option.isSome_iff_exists.1 (by simpa using h2)
 have hif:i.fit:=hfit i (List.mem_of_find?_eq_some hfi)
 rw [hfi] at hx h
 simp only [Option.getD_some] at hx
 clear h2 hb
 have hlen1:A.len e1=Int.ofNat i.types.length:=lenIs X.a hx.2.1
 have hlen2:A.len e2=Int.ofNat i.values.length:=lenIs X.a hx.2.2.1
 have hlen3:A.len e3=Int.ofNat i.aliases.length:=lenIs X.a hx.2.2.2.1
 simp only at h
 refine X.call (F50_51 (p:=fun y=>y.name==n) hx.2.1 hif.ok.nt (fun x _ _ _ _ _ _ _ _ _ _ _ _ _ K' hx hK=>F51 hx hK) fun r1 hr1=> ?_)
 rcases idxF_cases (fun y:TE=>y.name==n) i.types with ⟨a1,a2⟩|⟨k,h5,a1,a2,a3⟩
 rotate_left
 ·rw [find_some' h5 a2 a3] at h
  have hr:r1=Int.ofNat k:=hr1.trans a1
  subst hr
  have hid:A.idx (Int.ofNat k) (A.len e1):=by rw [X.a,hx.2.1];exact leaf_idx h5
  have hle1:A.le 0 (Int.ofNat k)=true:=by rw [hle];exact decide_eq_true (Int.natCast_nonneg k)
  have k1:=teIsAt X.a hx.2.1 h5
  cbv
  repeat' (first|apply And.intro|exact fun (_:FF)=>by kernel_rfl|(intro h2;first|exact absurd ((hle1).symm.trans h2) (by decide)|cbv)|apply Or.inl)
  any_goals exact hid
  refine X.call (F52 he hok hif (hif.t _ (List.getElem_mem h5)) hx k1 fun r hr=> ?_)
  cbv
  exact h r hr
 rw [show (i.types.find? fun y=>y.name==n)=none by rw [List.find?_eq_none];intro y hy;simp [a2 y hy]] at h
 simp only at h
 have hr:r1= -1:=hr1.trans a1
 subst hr
 have hle0:A.le 0 (-1)=false:=by rw [hle];decide
 clear a1 a2 hr1
 cbv
 repeat' (first|apply And.intro|exact fun (_:FF)=>by kernel_rfl|(intro h2;first|exact absurd ((hle0).symm.trans h2) (by decide)|cbv)|apply Or.inl)
 refine X.call (F53_54 (p:=fun y=>y.name==n) hx.2.2.1 hif.ok.nv (fun x _ _ _ _ _ _ _ _ K' hx hK=>F54 hx hK) fun r1 hr1=> ?_)
 rcases idxF_cases (fun y:VE=>y.name==n) i.values with ⟨a1,a2⟩|⟨k,h5,a1,a2,a3⟩
 rotate_left
 ·rw [find_some' h5 a2 a3] at h
  have hr:r1=Int.ofNat k:=hr1.trans a1
  subst hr
  have hid:A.idx (Int.ofNat k) (A.len e2):=by rw [X.a,hx.2.2.1];exact leaf_idx h5
  have hle1:A.le 0 (Int.ofNat k)=true:=by rw [hle];exact decide_eq_true (Int.natCast_nonneg k)
  have k1:=veIsAt X.a hx.2.2.1 h5
  cbv
  repeat' (first|apply And.intro|exact fun (_:FF)=>by kernel_rfl|(intro h2;first|exact absurd ((hle1).symm.trans h2) (by decide)|cbv)|apply Or.inl)
  any_goals exact hid
  refine X.call (F55 he hok (hif.v _ (List.getElem_mem h5)) k1 fun r hr=> ?_)
  cbv
  exact h r hr
 rw [show (i.values.find? fun y=>y.name==n)=none by rw [List.find?_eq_none];intro y hy;simp [a2 y hy]] at h
 simp only at h
 have hr:r1= -1:=hr1.trans a1
 subst hr
 clear a1 a2 hr1
 cbv
 repeat' (first|apply And.intro|exact fun (_:FF)=>by kernel_rfl|(intro h2;first|exact absurd ((hle0).symm.trans h2) (by decide)|cbv)|apply Or.inl)
 refine X.call (F56_57 (p:=fun y=>y.name==n) hx.2.2.2.1 hif.ok.na (fun x _ _ _ _ K' hx hK=>F57 hx hK) fun r1 hr1=> ?_)
 rcases idxF_cases (fun y:AE=>y.name==n) i.aliases with ⟨a1,a2⟩|⟨k,h5,a1,a2,a3⟩
 rotate_left
 ·rw [find_some' h5 a2 a3] at h
  have hr:r1=Int.ofNat k:=hr1.trans a1
  subst hr
  have hid:A.idx (Int.ofNat k) (A.len e3):=by rw [X.a,hx.2.2.2.1];exact leaf_idx h5
  have hle1:A.le 0 (Int.ofNat k)=true:=by rw [hle];exact decide_eq_true (Int.natCast_nonneg k)
  have k1:=aeIsAt X.a hx.2.2.2.1 h5
  cbv
  repeat' (first|apply And.intro|exact fun (_:FF)=>by kernel_rfl|(intro h2;first|exact absurd ((hle1).symm.trans h2) (by decide)|cbv)|apply Or.inl)
  any_goals exact hid
  refine X.call (F58 he hok (hif.a _ (List.getElem_mem h5)) k1 fun r hr=> ?_)
  cbv
  exact h r hr
 rw [show (i.aliases.find? fun y=>y.name==n)=none by rw [List.find?_eq_none];intro y hy;simp [a2 y hy]] at h
 simp only at h
 have hr:r1= -1:=hr1.trans a1
 subst hr
 clear a1 a2 hr1
 cbv
 repeat' (first|apply And.intro|exact fun (_:FF)=>by kernel_rfl|(intro h2;first|exact absurd ((hle0).symm.trans h2) (by decide)|cbv)|apply Or.inl)
 exact h 6 rfl
end Go.VC.T07
end

section
namespace Go.VC
def headE (i:IF):Int:=if pathB i.path=false then 4 else if 64<i.types.length+i.values.length+i.aliases.length then 7 else 0
def nmT (i:IF):List S:=i.types.map TE.name
def nmV (i:IF):List S:=i.values.map VE.name
def nmA (i:IF):List S:=i.aliases.map AE.name
def nmD (i:IF):List S:=i.deprecated.map DE.name
end Go.VC
namespace Go.VC.T07
open Go Go.VC Go.Proofs
theorem F33 {i:IF} (hi:i.fit) {de:D} {c0:S} {c1 c2 c3 c4:D} (hc:ifIs i c0 c1 c2 c3 c4) {K:PV→List Ob→Prop} (h:∀ r:Int,r=headE i→K (.tup [.str [],.int .i64 r]) []):
  FC Tryz.prog tt 33 [] [chkPV de c0 c1 c2 c3 c4] K:=by
 have hp:c0.length≤4294967200:=by rw [hc.1];exact Nat.le_trans hi.path (by decide)
 unfold headE at h
 rw [← hc.1] at h
 refine FC.enter (G:=g33) tt_ok mixed ⟨Tryz.func33,by rfl,rfl⟩ rfl rfl rfl ?_
 intro A C L X
 have l1:A.len c1=Int.ofNat i.types.length:=lenIs X.a hc.2.1
 have l2:A.len c2=Int.ofNat i.values.length:=lenIs X.a hc.2.2.1
 have l3:A.len c3=Int.ofNat i.aliases.length:=lenIs X.a hc.2.2.2.1
 have hneg:=negA X.a
 have n1:=hi.nt
 have n2:=hi.nv
 have n3:=hi.na
 have q1:A.inr .i64 (A.add (A.len c1) (A.len c2)):=by rw [l1,l2,X.a];simp only [SD,bNot];omega
 have q2:A.inr .i64 (A.add (A.add (A.len c1) (A.len c2)) (A.len c3)):=by rw [l1,l2,l3,X.a];simp only [SD,bNot];omega
 cbv
 repeat' (first|apply And.intro|exact fun (_:FF)=>by kernel_rfl|(intro h2;cbv)|apply Or.inl|(refine X.call (F70 hp fun b hb=> ?_);cbv))
 ·have h2:A.not b=true:=by assumption
  rw [hneg,hb] at h2
  refine h _ ?_
  rw [if_pos (by simpa using h2)]
 ·exact q1
 ·exact q2
 ·have h3:A.not b=false:=by assumption
  have h2:A.lt 64 (A.add (A.add (A.len c1) (A.len c2)) (A.len c3))=true:=by assumption
  rw [hneg,hb] at h3
  rw [l1,l2,l3,X.a] at h2
  simp only [SD,bNot] at h2
  refine h _ ?_
  rw [if_neg (by intro e;rw [e] at h3;cases h3),if_pos (by omega)]
 ·have h3:A.not b=false:=by assumption
  have h2:A.lt 64 (A.add (A.add (A.len c1) (A.len c2)) (A.len c3))=false:=by assumption
  rw [hneg,hb] at h3
  rw [l1,l2,l3,X.a] at h2
  simp only [SD,bNot] at h2
  refine h _ ?_
  rw [if_neg (by intro e;rw [e] at h3;cases h3),if_neg (by omega)]
def g71a:Cfg:={tt:=tt,n:=79,own:=[4]}
theorem F71 {i:IF} (hi:i.fit) {de:D} {c0:S} {c1 c2 c3 c4:D} (hc:ifIs i c0 c1 c2 c3 c4) {K:PV→List Ob→Prop}
  (h:∀ d0 d1 d2 d3,d0=encL encS (nmT i)→d1=encL encS (nmV i)→d2=encL encS (nmA i)→d3=encL encS (nmD i)→K (.tup [.agg [.lst 9 d0,.lst 9 d1,.lst 9 d2,.lst 9 d3],.agg [.clos 95 [],.clos 96 [],.clos 119 [],.clos 119 []]]) []):
  FC Tryz.prog tt 71 [] [chkPV de c0 c1 c2 c3 c4] K:=by
 refine FC.enter (G:=g71a) tt_ok mixed ⟨Tryz.func71,by rfl,rfl⟩ rfl rfl rfl ?_
 intro A C L X
 have n1:=hi.nt
 have n2:=hi.nv
 have n3:=hi.na
 have n4:=hi.nd
 obtain ⟨n_c1,hn_c1⟩:∃ n,n=i.types.length:=⟨_,rfl⟩
 have hlen_c1:Std.len c1=Int.ofNat n_c1:=by rw [hc.2.1,Std_len,hn_c1];rfl
 cbv
 refine X.loopP (fun (y:Nat×D)=>⟨[(17,.int .i64 y.1),(16,.int .i64 (A.len c1)),(15,.lst 51 c1),(4,.box 7 0),(3,.box 2 0),(2,.box 1 0),(1,.box 0 0)],[.box [.lst 40 de,.str c0,.lst 51 c1,.lst 101 c2,.lst 106 c3,.lst 119 c4],.box [.lst 9 (.list []),.lst 9 (.list []),.lst 9 (.list []),.lst 9 (.list [])],.box [.nilf,.nilf,.nilf,.nilf],.row 9 (y.2) true,.row 9 (.list []) true,.row 9 (.list []) true,.row 9 (.list []) true,.box [.row 9 3,.row 9 4,.row 9 5,.row 9 6]]⟩)
  (fun y=>y.1≤n_c1∧y.2=encL encS ((i.types.take y.1).map TE.name)) (fun y=>n_c1-y.1) (0,.list []) ⟨Nat.zero_le _,rfl⟩ ?_ ?_
 ·refine ⟨[0,1,2,3,4,5,6,7],rfl,?_⟩
  (cbv;repeat' apply And.intro);all_goals try first|trivial|rfl|(rw [X.a];rfl)
 rintro ⟨j,r0⟩ ⟨hj,hr0⟩
 simp only at hj hr0
 cbv
 refine ⟨fun h1=> ?_,fun h1=> ?_⟩
 ·have h5:j<i.types.length:=by obtain rfl:=X.a;simp only [hlen_c1,SD,bNot] at h1;omega
  have k1:=teIsAt X.a hc.2.1 h5
  have k0:=k1.1
  have hid:A.idx (Int.ofNat j) (A.len c1):=by rw [X.a,hc.2.1];exact leaf_idx h5
  have hin:A.inr .i64 (A.add (Int.ofNat j) 1):=by rw [X.a];exact leaf_inc h5 (by omega)
  have hb2:A.bnd (A.add (A.len r0) (A.len (A.lit [[.str (A.asStr (A.cell c1 (Int.ofNat j) 0))]]))) 4294967296:=by
   rw [X.a,hr0];simp only [SD,bNot,List.length_map];omega
  have q1:A.app r0 (A.lit [[.str (A.asStr (A.cell c1 (Int.ofNat j) 0))]])=encL encS ((i.types.take (j+1)).map TE.name):=by
   rw [k0,X.a,hr0,map_take h5]
   exact Std_app (k:=[i.types[j].name])
  cbv
  repeat' (first|apply And.intro|exact fun (_:FF)=>by kernel_rfl|(intro h2;cbv)|apply Or.inl)
  any_goals first|exact hid|exact hin|exact hb2
  refine ⟨(j+1,_),⟨?_,q1⟩,?_,[0,1,2,3,4,5,6,7],rfl,?_⟩
  ·simp only;omega
  ·simp only;omega
  (cbv;repeat' apply And.intro);all_goals try first|trivial|rfl|(rw [X.a];rfl)
 have h5:j=n_c1:=by obtain rfl:=X.a;simp only [hlen_c1,SD,bNot] at h1;omega
 rw [h5,hn_c1,List.take_length] at hr0
 clear h1 hj
 obtain ⟨n_c2,hn_c2⟩:∃ n,n=i.values.length:=⟨_,rfl⟩
 have hlen_c2:Std.len c2=Int.ofNat n_c2:=by rw [hc.2.2.1,Std_len,hn_c2];rfl
 cbv
 refine X.loopP (fun (y:Nat×D)=>⟨[(33,.int .i64 y.1),(32,.int .i64 (A.len c2)),(31,.lst 101 c2),(4,.box 7 0),(3,.box 2 0),(2,.box 1 0),(1,.box 0 0)],[.box [.lst 40 de,.str c0,.lst 51 c1,.lst 101 c2,.lst 106 c3,.lst 119 c4],.box [.lst 9 (.list []),.lst 9 (.list []),.lst 9 (.list []),.lst 9 (.list [])],.box [.nilf,.nilf,.nilf,.nilf],.row 9 (r0) true,.row 9 (y.2) true,.row 9 (.list []) true,.row 9 (.list []) true,.box [.row 9 3,.row 9 4,.row 9 5,.row 9 6]]⟩)
  (fun y=>y.1≤n_c2∧y.2=encL encS ((i.values.take y.1).map VE.name)) (fun y=>n_c2-y.1) (0,.list []) ⟨Nat.zero_le _,rfl⟩ ?_ ?_
 ·refine ⟨[0,1,2,3,4,5,6,7],rfl,?_⟩
  (cbv;repeat' apply And.intro);all_goals try first|trivial|rfl|(rw [X.a];rfl)
 rintro ⟨j,r1⟩ ⟨hj,hr1⟩
 simp only at hj hr1
 cbv
 refine ⟨fun h1=> ?_,fun h1=> ?_⟩
 ·have h5:j<i.values.length:=by obtain rfl:=X.a;simp only [hlen_c2,SD,bNot] at h1;omega
  have k1:=veIsAt X.a hc.2.2.1 h5
  have k0:=k1.1
  have hid:A.idx (Int.ofNat j) (A.len c2):=by rw [X.a,hc.2.2.1];exact leaf_idx h5
  have hin:A.inr .i64 (A.add (Int.ofNat j) 1):=by rw [X.a];exact leaf_inc h5 (by omega)
  have hb2:A.bnd (A.add (A.len r1) (A.len (A.lit [[.str (A.asStr (A.cell c2 (Int.ofNat j) 0))]]))) 4294967296:=by
   rw [X.a,hr1];simp only [SD,bNot,List.length_map];omega
  have q1:A.app r1 (A.lit [[.str (A.asStr (A.cell c2 (Int.ofNat j) 0))]])=encL encS ((i.values.take (j+1)).map VE.name):=by
   rw [k0,X.a,hr1,map_take h5]
   exact Std_app (k:=[i.values[j].name])
  cbv
  repeat' (first|apply And.intro|exact fun (_:FF)=>by kernel_rfl|(intro h2;cbv)|apply Or.inl)
  any_goals first|exact hid|exact hin|exact hb2
  refine ⟨(j+1,_),⟨?_,q1⟩,?_,[0,1,2,3,4,5,6,7],rfl,?_⟩
  ·simp only;omega
  ·simp only;omega
  (cbv;repeat' apply And.intro);all_goals try first|trivial|rfl|(rw [X.a];rfl)
 have h5:j=n_c2:=by obtain rfl:=X.a;simp only [hlen_c2,SD,bNot] at h1;omega
 rw [h5,hn_c2,List.take_length] at hr1
 clear h1 hj
 obtain ⟨n_c3,hn_c3⟩:∃ n,n=i.aliases.length:=⟨_,rfl⟩
 have hlen_c3:Std.len c3=Int.ofNat n_c3:=by rw [hc.2.2.2.1,Std_len,hn_c3];rfl
 cbv
 refine X.loopP (fun (y:Nat×D)=>⟨[(49,.int .i64 y.1),(48,.int .i64 (A.len c3)),(47,.lst 106 c3),(4,.box 7 0),(3,.box 2 0),(2,.box 1 0),(1,.box 0 0)],[.box [.lst 40 de,.str c0,.lst 51 c1,.lst 101 c2,.lst 106 c3,.lst 119 c4],.box [.lst 9 (.list []),.lst 9 (.list []),.lst 9 (.list []),.lst 9 (.list [])],.box [.nilf,.nilf,.nilf,.nilf],.row 9 (r0) true,.row 9 (r1) true,.row 9 (y.2) true,.row 9 (.list []) true,.box [.row 9 3,.row 9 4,.row 9 5,.row 9 6]]⟩)
  (fun y=>y.1≤n_c3∧y.2=encL encS ((i.aliases.take y.1).map AE.name)) (fun y=>n_c3-y.1) (0,.list []) ⟨Nat.zero_le _,rfl⟩ ?_ ?_
 ·refine ⟨[0,1,2,3,4,5,6,7],rfl,?_⟩
  (cbv;repeat' apply And.intro);all_goals try first|trivial|rfl|(rw [X.a];rfl)
 rintro ⟨j,r2⟩ ⟨hj,hr2⟩
 simp only at hj hr2
 cbv
 refine ⟨fun h1=> ?_,fun h1=> ?_⟩
 ·have h5:j<i.aliases.length:=by obtain rfl:=X.a;simp only [hlen_c3,SD,bNot] at h1;omega
  have k1:=aeIsAt X.a hc.2.2.2.1 h5
  have k0:=k1.1
  have hid:A.idx (Int.ofNat j) (A.len c3):=by rw [X.a,hc.2.2.2.1];exact leaf_idx h5
  have hin:A.inr .i64 (A.add (Int.ofNat j) 1):=by rw [X.a];exact leaf_inc h5 (by omega)
  have hb2:A.bnd (A.add (A.len r2) (A.len (A.lit [[.str (A.asStr (A.cell c3 (Int.ofNat j) 0))]]))) 4294967296:=by
   rw [X.a,hr2];simp only [SD,bNot,List.length_map];omega
  have q1:A.app r2 (A.lit [[.str (A.asStr (A.cell c3 (Int.ofNat j) 0))]])=encL encS ((i.aliases.take (j+1)).map AE.name):=by
   rw [k0,X.a,hr2,map_take h5]
   exact Std_app (k:=[i.aliases[j].name])
  cbv
  repeat' (first|apply And.intro|exact fun (_:FF)=>by kernel_rfl|(intro h2;cbv)|apply Or.inl)
  any_goals first|exact hid|exact hin|exact hb2
  refine ⟨(j+1,_),⟨?_,q1⟩,?_,[0,1,2,3,4,5,6,7],rfl,?_⟩
  ·simp only;omega
  ·simp only;omega
  (cbv;repeat' apply And.intro);all_goals try first|trivial|rfl|(rw [X.a];rfl)
 have h5:j=n_c3:=by obtain rfl:=X.a;simp only [hlen_c3,SD,bNot] at h1;omega
 rw [h5,hn_c3,List.take_length] at hr2
 clear h1 hj
 obtain ⟨n_c4,hn_c4⟩:∃ n,n=i.deprecated.length:=⟨_,rfl⟩
 have hlen_c4:Std.len c4=Int.ofNat n_c4:=by rw [hc.2.2.2.2,Std_len,hn_c4];rfl
 cbv
 refine X.loopP (fun (y:Nat×D)=>⟨[(65,.int .i64 y.1),(64,.int .i64 (A.len c4)),(63,.lst 119 c4),(4,.box 7 0),(3,.box 2 0),(2,.box 1 0),(1,.box 0 0)],[.box [.lst 40 de,.str c0,.lst 51 c1,.lst 101 c2,.lst 106 c3,.lst 119 c4],.box [.lst 9 (.list []),.lst 9 (.list []),.lst 9 (.list []),.lst 9 (.list [])],.box [.nilf,.nilf,.nilf,.nilf],.row 9 (r0) true,.row 9 (r1) true,.row 9 (r2) true,.row 9 (y.2) true,.box [.row 9 3,.row 9 4,.row 9 5,.row 9 6]]⟩)
  (fun y=>y.1≤n_c4∧y.2=encL encS ((i.deprecated.take y.1).map DE.name)) (fun y=>n_c4-y.1) (0,.list []) ⟨Nat.zero_le _,rfl⟩ ?_ ?_
 ·refine ⟨[0,1,2,3,4,5,6,7],rfl,?_⟩
  (cbv;repeat' apply And.intro);all_goals try first|trivial|rfl|(rw [X.a];rfl)
 rintro ⟨j,r3⟩ ⟨hj,hr3⟩
 simp only at hj hr3
 cbv
 refine ⟨fun h1=> ?_,fun h1=> ?_⟩
 ·have h5:j<i.deprecated.length:=by obtain rfl:=X.a;simp only [hlen_c4,SD,bNot] at h1;omega
  have k1:=deIsAt X.a hc.2.2.2.2 h5
  have k0:=k1.1
  have hid:A.idx (Int.ofNat j) (A.len c4):=by rw [X.a,hc.2.2.2.2];exact leaf_idx h5
  have hin:A.inr .i64 (A.add (Int.ofNat j) 1):=by rw [X.a];exact leaf_inc h5 (by omega)
  have hb2:A.bnd (A.add (A.len r3) (A.len (A.lit [[.str (A.asStr (A.cell c4 (Int.ofNat j) 0))]]))) 4294967296:=by
   rw [X.a,hr3];simp only [SD,bNot,List.length_map];omega
  have q1:A.app r3 (A.lit [[.str (A.asStr (A.cell c4 (Int.ofNat j) 0))]])=encL encS ((i.deprecated.take (j+1)).map DE.name):=by
   rw [k0,X.a,hr3,map_take h5]
   exact Std_app (k:=[i.deprecated[j].name])
  cbv
  repeat' (first|apply And.intro|exact fun (_:FF)=>by kernel_rfl|(intro h2;cbv)|apply Or.inl)
  any_goals first|exact hid|exact hin|exact hb2
  refine ⟨(j+1,_),⟨?_,q1⟩,?_,[0,1,2,3,4,5,6,7],rfl,?_⟩
  ·simp only;omega
  ·simp only;omega
  (cbv;repeat' apply And.intro);all_goals try first|trivial|rfl|(rw [X.a];rfl)
 have h5:j=n_c4:=by obtain rfl:=X.a;simp only [hlen_c4,SD,bNot] at h1;omega
 rw [h5,hn_c4,List.take_length] at hr3
 clear h1 hj
 cbv
 exact h r0 r1 r2 r3 hr0 hr1 hr2 hr3
end Go.VC.T07
end

section
namespace Go.VC
def nameL (f:S→Bool):Option S→List S→S×Int
 |_,[]=>([],0)
 |none,s::l=>if f s=false then (s,4) else nameL f (some s) l
 |some p,s::l=>if f s=false then (s,4) else if s=p then (s,5) else if slt s p=true then (s,1) else nameL f (some s) l
def orE (a b:S×Int):S×Int:=if a.2≠0 then a else b
def eithB (s:S):Bool:=nameB s||typeB s
def namesE (i:IF):S×Int:=orE (nameL typeB none (nmT i)) (orE (nameL nameB none (nmV i)) (orE (nameL eithB none (nmA i)) (orE (nameL eithB none (nmD i)) ([],0))))
def prevO (l:List S) (j:Nat):Option S:=if j=0 then none else some (l.getD (j-1) [])
theorem nameL_f {f:S→Bool} {p:Option S} {s:S} {l:List S} (h:f s=false):nameL f p (s::l)=(s,4):=by
 cases p<;>rw [nameL,if_pos h]
theorem nameL_n {f:S→Bool} {s:S} {l:List S} (h:f s=true):nameL f none (s::l)=nameL f (some s) l:=by
 rw [nameL,if_neg (by rw [h];decide)]
theorem nameL_5 {f:S→Bool} {p s:S} {l:List S} (h:f s=true) (h2:s=p):nameL f (some p) (s::l)=(s,5):=by
 rw [nameL,if_neg (by rw [h];decide),if_pos h2]
theorem nameL_1 {f:S→Bool} {p s:S} {l:List S} (h:f s=true) (h2:s≠p) (h3:slt s p=true):nameL f (some p) (s::l)=(s,1):=by
 rw [nameL,if_neg (by rw [h];decide),if_neg h2,if_pos h3]
theorem nameL_s {f:S→Bool} {p s:S} {l:List S} (h:f s=true) (h2:s≠p) (h3:slt s p=false):nameL f (some p) (s::l)=nameL f (some s) l:=by
 rw [nameL,if_neg (by rw [h];decide),if_neg h2,if_neg (by rw [h3];decide)]
def inL (g:S→Bool):List S→S×Int
 |[]=>([],0)
 |s::l=>if g s=true then (s,5) else inL g l
def diffE (i:IF):S×Int:=orE (inL (nmT i).contains (nmV i)) (inL (fun s=>(nmT i).contains s||(nmV i).contains s) (nmA i))
def entL {α:Type} (e:α→Int) (n:α→S):List α→S×Int
 |[]=>([],0)
 |x::l=>if e x≠0 then (n x,e x) else entL e n l
noncomputable def entriesE (env:List IF) (i:IF):S×Int:=orE (entL (typE env i) TE.name i.types) (orE (entL (valE env) VE.name i.values) (entL (aliasE env) AE.name i.aliases))
end Go.VC
namespace Go.VC.T07
open Go Go.VC Go.Proofs
theorem F34 {i:IF} (hi:i.fit) {de:D} {c0:S} {c1 c2 c3 c4:D} (hc:ifIs i c0 c1 c2 c3 c4) {K:PV→List Ob→Prop} (h:∀ (s:S) (r:Int),(s,r)=namesE i→K (.tup [.str s,.int .i64 r]) []):
  FC Tryz.prog tt 34 [] [chkPV de c0 c1 c2 c3 c4] K:=by
 refine FC.enter (G:=g34) tt_ok mixed ⟨Tryz.func34,by rfl,rfl⟩ rfl rfl rfl ?_
 intro A C L X
 have hneg:=negA X.a
 have hlt:=ltA X.a
 have hsq:=sqA X.a
 have hsl:=slA X.a
 have hin4:∀ k:Nat,k<4→A.inr .i64 (A.add (Int.ofNat k) 1):=by rw [X.a];exact fun k hk=>leaf_inc hk (by decide)
 have nT:=hi.nt
 have nV:=hi.nv
 have nA:=hi.na
 have nD:=hi.nd
 cbv
 refine X.call (F71 hi hc fun d0 d1 d2 d3 hd0 hd1 hd2 hd3=> ?_)
 obtain ⟨E0,hE0⟩:∃ x,x=nameL typeB none (nmT i):=⟨_,rfl⟩
 obtain ⟨E1,hE1⟩:∃ x,x=nameL nameB none (nmV i):=⟨_,rfl⟩
 obtain ⟨E2,hE2⟩:∃ x,x=nameL eithB none (nmA i):=⟨_,rfl⟩
 obtain ⟨E3,hE3⟩:∃ x,x=nameL eithB none (nmD i):=⟨_,rfl⟩
 unfold namesE at h
 rw [← hE0,←hE1,←hE2,←hE3] at h
 cbv
 refine X.loop (fun (k:Nat)=>⟨[(16,.int .i64 k),(15,.agg [.lst 9 d0,.lst 9 d1,.lst 9 d2,.lst 9 d3]),(5,.box 2 0),(4,.box 1 0),(1,.box 0 0)],[.box [.lst 40 de,.str c0,.lst 51 c1,.lst 101 c2,.lst 106 c3,.lst 119 c4],.box [.lst 9 d0,.lst 9 d1,.lst 9 d2,.lst 9 d3],.box [.clos 95 [],.clos 96 [],.clos 119 [],.clos 119 []]]⟩) (fun k=>k≤4∧(0<k→E0.2=0)∧(1<k→E1.2=0)∧(2<k→E2.2=0)∧(3<k→E3.2=0)) (fun k=>4-k) 0 ⟨Nat.zero_le _,by simp,by simp,by simp,by simp⟩ ?_ ?_
 ·(cbv;repeat' apply And.intro);all_goals try first|trivial|rfl|(rw [X.a];rfl)
 rintro k ⟨hk,w0,w1,w2,w3⟩
 have hk5:k=0∨k=1∨k=2∨k=3∨k=4:=by omega
 rcases hk5 with rfl|rfl|rfl|rfl|rfl
 ·have hlit1:A.lt (Int.ofNat 0) 4=true:=by rw [hlt];rfl
  have hlit0:A.lt (Int.ofNat 0) 4≠false:=by rw [hlit1];decide
  have hll:(nmT i).length≤1048576:=by rw [nmT,List.length_map];exact nT
  have hsz:∀ s∈nmT i,s.length≤4294967295:=by
   intro s hs
   obtain ⟨x,hx,rfl⟩:=List.mem_map.1 hs
   exact Nat.le_trans (hi.t x hx).n (by decide)
  have hans:∀ (s:S) (r:Int),E0=(s,r)→r≠0→(s,r)=orE E0 (orE E1 (orE E2 (orE E3 ([],0)))):=by
   intro s r e hr
   rw [orE,if_pos (by rw [e];exact hr),e]
  obtain ⟨n_d0,hn_d0,hlen_d0⟩:=lenOf hd0
  cbv
  refine ⟨fun h1=> ?_,fun h1=>absurd h1 hlit0⟩
  cbv
  refine X.loop (fun (j:Nat)=>⟨[(22,.int .i64 j),(21,.int .i64 (A.len d0)),(20,.lst 9 d0),(7,.lst 9 d0),(6,.int .i64 0),(16,.int .i64 0),(15,.agg [.lst 9 d0,.lst 9 d1,.lst 9 d2,.lst 9 d3]),(5,.box 2 0),(4,.box 1 0),(1,.box 0 0)],[.box [.lst 40 de,.str c0,.lst 51 c1,.lst 101 c2,.lst 106 c3,.lst 119 c4],.box [.lst 9 d0,.lst 9 d1,.lst 9 d2,.lst 9 d3],.box [.clos 95 [],.clos 96 [],.clos 119 [],.clos 119 []]]⟩) (fun j=>j≤n_d0∧E0=nameL typeB (prevO (nmT i) j) ((nmT i).drop j)) (fun j=>n_d0-j) 0 ⟨Nat.zero_le _,hE0⟩ ?_ ?_
  ·(cbv;repeat' apply And.intro);all_goals try first|trivial|rfl|(rw [X.a];rfl)
  rintro j ⟨hj,hq⟩
  cbv
  refine ⟨fun h1=> ?_,fun h1=> ?_⟩
  ·have h5:j<(nmT i).length:=by obtain rfl:=X.a;simp only [hlen_d0,SD,bNot] at h1;omega
   have hid:A.idx (Int.ofNat j) (A.len d0):=by rw [X.a,hd0];exact leaf_idx h5
   have hin:A.inr .i64 (A.add (Int.ofNat j) 1):=by rw [X.a];exact leaf_inc h5 (by omega)
   have hcell:A.asStr (A.cell d0 (Int.ofNat j) 0)=(nmT i)[j]:=by rw [cellAt X.a hd0 h5,X.a];rfl
   have hcl:(A.asStr (A.cell d0 (Int.ofNat j) 0)).length≤4294967295:=by rw [hcell];exact hsz _ (List.getElem_mem h5)
   have hin1:A.lt 0 (Int.ofNat j)=true→A.inr .i64 (A.sub (Int.ofNat j) 1):=by
    intro h;rw [hlt] at h;have h:=of_decide_eq_true h;rw [X.a];simp only [SD,bNot] at *;omega
   have hid1:A.lt 0 (Int.ofNat j)=true→A.idx (A.sub (Int.ofNat j) 1) (A.len d0):=by
    intro h;rw [hlt] at h;have h:=of_decide_eq_true h;rw [X.a] at *;simp only [hlen_d0,SD,bNot] at *;omega
   have hcp:A.lt 0 (Int.ofNat j)=true→∃ p,prevO (nmT i) j=some p∧A.asStr (A.cell d0 (A.sub (Int.ofNat j) 1) 0)=p:=by
    intro h;rw [hlt] at h;have h:=of_decide_eq_true h
    simp only [Int.ofNat_eq_natCast] at h
    have hjp:j-1<(nmT i).length:=by omega
    refine ⟨(nmT i)[j-1],?_,?_⟩
    ·rw [prevO,if_neg (by omega)];simp [List.getD,hjp]
    ·rw [show A.sub (Int.ofNat j) 1=Int.ofNat (j-1) by rw [X.a];simp only [SD,bNot];omega,cellAt X.a hd0 hjp,X.a];rfl
   have hcn:A.lt 0 (Int.ofNat j)=false→prevO (nmT i) j=none:=by
    intro h;rw [hlt] at h;have h:=of_decide_eq_false h
    simp only [Int.ofNat_eq_natCast] at h
    rw [prevO,if_pos (by omega)]
   have hpr:prevO (nmT i) (j+1)=some (nmT i)[j]:=by rw [prevO,if_neg (by omega)];simp [List.getD,h5]
   obtain ⟨sj,hsj⟩:∃ x,x=(nmT i)[j]:=⟨_,rfl⟩
   rw [List.drop_eq_getElem_cons h5,←hsj] at hq
   rw [← hsj] at hpr hcell
   cbv
   repeat' (first|apply And.intro|exact fun (_:FF)=>by kernel_rfl|(intro h2;cbv)|apply Or.inl)
   any_goals exact hid
   refine X.call (F95 hcl fun b hb=> ?_)
   have hb:b=typeB sj:=by rw [← hcell];exact hb
   cases hz:A.lt 0 (Int.ofNat j) with
   |true=>
    obtain ⟨p,hp1,hp2⟩:=hcp hz
    rw [hp1] at hq
    cbv
    repeat' (first|apply And.intro|exact fun (_:FF)=>by kernel_rfl|(intro h2;first|exact absurd ((hz).symm.trans h2) (by decide)|cbv)|apply Or.inl)
    any_goals first|exact hin|exact hin1 hz|exact hid1 hz
    ·have h2:A.not b=true:=by assumption
     rw [hneg,hb] at h2
     refine h _ _ (hans _ _ ?_ (by decide))
     rw [hq,nameL_f (by simpa using h2)];exact Prod.ext hcell.symm rfl
    ·have h2:A.not b=false:=by assumption
     have h3:A.seq (A.asStr (A.cell d0 (Int.ofNat j) 0)) (A.asStr (A.cell d0 (A.sub (Int.ofNat j) 1) 0))=true:=by assumption
     rw [hneg,hb] at h2
     rw [hcell,hp2,hsq] at h3
     refine h _ _ (hans _ _ ?_ (by decide))
     rw [hq,nameL_5 (by simpa using h2) (by simpa using h3)];exact Prod.ext hcell.symm rfl
    ·have h2:A.not b=false:=by assumption
     have h3:A.seq (A.asStr (A.cell d0 (Int.ofNat j) 0)) (A.asStr (A.cell d0 (A.sub (Int.ofNat j) 1) 0))=false:=by assumption
     have h4:A.slt (A.asStr (A.cell d0 (Int.ofNat j) 0)) (A.asStr (A.cell d0 (A.sub (Int.ofNat j) 1) 0))=true:=by assumption
     rw [hneg,hb] at h2
     rw [hcell,hp2,hsq] at h3
     rw [hcell,hp2,hsl] at h4
     refine h _ _ (hans _ _ ?_ (by decide))
     rw [hq,nameL_1 (by simpa using h2) (by simpa using h3) h4];exact Prod.ext hcell.symm rfl
    ·have h2:A.not b=false:=by assumption
     have h3:A.seq (A.asStr (A.cell d0 (Int.ofNat j) 0)) (A.asStr (A.cell d0 (A.sub (Int.ofNat j) 1) 0))=false:=by assumption
     have h4:A.slt (A.asStr (A.cell d0 (Int.ofNat j) 0)) (A.asStr (A.cell d0 (A.sub (Int.ofNat j) 1) 0))=false:=by assumption
     rw [hneg,hb] at h2
     rw [hcell,hp2,hsq] at h3
     rw [hcell,hp2,hsl] at h4
     refine ⟨j+1,⟨by omega,?_⟩,by omega,?_⟩
     ·rw [hpr,hq,nameL_s (by simpa using h2) (by simpa using h3) h4]
     (cbv;repeat' apply And.intro);all_goals try first|trivial|rfl|(rw [X.a];rfl)
   |false=>
    rw [hcn hz] at hq
    cbv
    repeat' (first|apply And.intro|exact fun (_:FF)=>by kernel_rfl|(intro h2;first|exact absurd ((hz).symm.trans h2) (by decide)|cbv)|apply Or.inl)
    any_goals first|exact hin
    ·have h2:A.not b=true:=by assumption
     rw [hneg,hb] at h2
     refine h _ _ (hans _ _ ?_ (by decide))
     rw [hq,nameL_f (by simpa using h2)];exact Prod.ext hcell.symm rfl
    ·have h2:A.not b=false:=by assumption
     rw [hneg,hb] at h2
     refine ⟨j+1,⟨by omega,?_⟩,by omega,?_⟩
     ·rw [hpr,hq,nameL_n (by simpa using h2)]
     (cbv;repeat' apply And.intro);all_goals try first|trivial|rfl|(rw [X.a];rfl)
  ·have h5:j=n_d0:=by obtain rfl:=X.a;simp only [hlen_d0,SD,bNot] at h1;omega
   rw [h5,hn_d0,List.drop_length] at hq
   have hz:E0=([],0):=by rw [hq];unfold nameL;cases prevO (nmT i) ((nmT i).length)<;>rfl
   have hin:A.inr .i64 (A.add (Int.ofNat 0) 1):=hin4 0 (by decide)
   cbv
   repeat' (first|apply And.intro|exact fun (_:FF)=>by kernel_rfl|(intro h2;cbv)|apply Or.inl)
   any_goals exact hin
   refine ⟨1,⟨by decide,fun _=>by rw [hz],fun h=>absurd h (by decide),fun h=>absurd h (by decide),fun h=>absurd h (by decide)⟩,by decide,?_⟩
   (cbv;repeat' apply And.intro);all_goals try first|trivial|rfl|(rw [X.a];rfl)
 ·have hlit1:A.lt (Int.ofNat 1) 4=true:=by rw [hlt];rfl
  have hlit0:A.lt (Int.ofNat 1) 4≠false:=by rw [hlit1];decide
  have hll:(nmV i).length≤1048576:=by rw [nmV,List.length_map];exact nV
  have hsz:∀ s∈nmV i,s.length≤4294967295:=by
   intro s hs
   obtain ⟨x,hx,rfl⟩:=List.mem_map.1 hs
   exact Nat.le_trans (hi.v x hx).n (by decide)
  have hans:∀ (s:S) (r:Int),E1=(s,r)→r≠0→(s,r)=orE E0 (orE E1 (orE E2 (orE E3 ([],0)))):=by
   intro s r e hr
   rw [orE,if_neg (by rw [w0 (by decide)];decide)];rw [orE,if_pos (by rw [e];exact hr),e]
  obtain ⟨n_d1,hn_d1,hlen_d1⟩:=lenOf hd1
  cbv
  refine ⟨fun h1=> ?_,fun h1=>absurd h1 hlit0⟩
  cbv
  refine X.loop (fun (j:Nat)=>⟨[(22,.int .i64 j),(21,.int .i64 (A.len d1)),(20,.lst 9 d1),(7,.lst 9 d1),(6,.int .i64 1),(16,.int .i64 1),(15,.agg [.lst 9 d0,.lst 9 d1,.lst 9 d2,.lst 9 d3]),(5,.box 2 0),(4,.box 1 0),(1,.box 0 0)],[.box [.lst 40 de,.str c0,.lst 51 c1,.lst 101 c2,.lst 106 c3,.lst 119 c4],.box [.lst 9 d0,.lst 9 d1,.lst 9 d2,.lst 9 d3],.box [.clos 95 [],.clos 96 [],.clos 119 [],.clos 119 []]]⟩) (fun j=>j≤n_d1∧E1=nameL nameB (prevO (nmV i) j) ((nmV i).drop j)) (fun j=>n_d1-j) 0 ⟨Nat.zero_le _,hE1⟩ ?_ ?_
  ·(cbv;repeat' apply And.intro);all_goals try first|trivial|rfl|(rw [X.a];rfl)
  rintro j ⟨hj,hq⟩
  cbv
  refine ⟨fun h1=> ?_,fun h1=> ?_⟩
  ·have h5:j<(nmV i).length:=by obtain rfl:=X.a;simp only [hlen_d1,SD,bNot] at h1;omega
   have hid:A.idx (Int.ofNat j) (A.len d1):=by rw [X.a,hd1];exact leaf_idx h5
   have hin:A.inr .i64 (A.add (Int.ofNat j) 1):=by rw [X.a];exact leaf_inc h5 (by omega)
   have hcell:A.asStr (A.cell d1 (Int.ofNat j) 0)=(nmV i)[j]:=by rw [cellAt X.a hd1 h5,X.a];rfl
   have hcl:(A.asStr (A.cell d1 (Int.ofNat j) 0)).length≤4294967295:=by rw [hcell];exact hsz _ (List.getElem_mem h5)
   have hin1:A.lt 0 (Int.ofNat j)=true→A.inr .i64 (A.sub (Int.ofNat j) 1):=by
    intro h;rw [hlt] at h;have h:=of_decide_eq_true h;rw [X.a];simp only [SD,bNot] at *;omega
   have hid1:A.lt 0 (Int.ofNat j)=true→A.idx (A.sub (Int.ofNat j) 1) (A.len d1):=by
    intro h;rw [hlt] at h;have h:=of_decide_eq_true h;rw [X.a] at *;simp only [hlen_d1,SD,bNot] at *;omega
   have hcp:A.lt 0 (Int.ofNat j)=true→∃ p,prevO (nmV i) j=some p∧A.asStr (A.cell d1 (A.sub (Int.ofNat j) 1) 0)=p:=by
    intro h;rw [hlt] at h;have h:=of_decide_eq_true h
    simp only [Int.ofNat_eq_natCast] at h
    have hjp:j-1<(nmV i).length:=by omega
    refine ⟨(nmV i)[j-1],?_,?_⟩
    ·rw [prevO,if_neg (by omega)];simp [List.getD,hjp]
    ·rw [show A.sub (Int.ofNat j) 1=Int.ofNat (j-1) by rw [X.a];simp only [SD,bNot];omega,cellAt X.a hd1 hjp,X.a];rfl
   have hcn:A.lt 0 (Int.ofNat j)=false→prevO (nmV i) j=none:=by
    intro h;rw [hlt] at h;have h:=of_decide_eq_false h
    simp only [Int.ofNat_eq_natCast] at h
    rw [prevO,if_pos (by omega)]
   have hpr:prevO (nmV i) (j+1)=some (nmV i)[j]:=by rw [prevO,if_neg (by omega)];simp [List.getD,h5]
   obtain ⟨sj,hsj⟩:∃ x,x=(nmV i)[j]:=⟨_,rfl⟩
   rw [List.drop_eq_getElem_cons h5,←hsj] at hq
   rw [← hsj] at hpr hcell
   cbv
   repeat' (first|apply And.intro|exact fun (_:FF)=>by kernel_rfl|(intro h2;cbv)|apply Or.inl)
   any_goals exact hid
   refine X.call (F96 hcl fun b hb=> ?_)
   have hb:b=nameB sj:=by rw [← hcell];exact hb
   cases hz:A.lt 0 (Int.ofNat j) with
   |true=>
    obtain ⟨p,hp1,hp2⟩:=hcp hz
    rw [hp1] at hq
    cbv
    repeat' (first|apply And.intro|exact fun (_:FF)=>by kernel_rfl|(intro h2;first|exact absurd ((hz).symm.trans h2) (by decide)|cbv)|apply Or.inl)
    any_goals first|exact hin|exact hin1 hz|exact hid1 hz
    ·have h2:A.not b=true:=by assumption
     rw [hneg,hb] at h2
     refine h _ _ (hans _ _ ?_ (by decide))
     rw [hq,nameL_f (by simpa using h2)];exact Prod.ext hcell.symm rfl
    ·have h2:A.not b=false:=by assumption
     have h3:A.seq (A.asStr (A.cell d1 (Int.ofNat j) 0)) (A.asStr (A.cell d1 (A.sub (Int.ofNat j) 1) 0))=true:=by assumption
     rw [hneg,hb] at h2
     rw [hcell,hp2,hsq] at h3
     refine h _ _ (hans _ _ ?_ (by decide))
     rw [hq,nameL_5 (by simpa using h2) (by simpa using h3)];exact Prod.ext hcell.symm rfl
    ·have h2:A.not b=false:=by assumption
     have h3:A.seq (A.asStr (A.cell d1 (Int.ofNat j) 0)) (A.asStr (A.cell d1 (A.sub (Int.ofNat j) 1) 0))=false:=by assumption
     have h4:A.slt (A.asStr (A.cell d1 (Int.ofNat j) 0)) (A.asStr (A.cell d1 (A.sub (Int.ofNat j) 1) 0))=true:=by assumption
     rw [hneg,hb] at h2
     rw [hcell,hp2,hsq] at h3
     rw [hcell,hp2,hsl] at h4
     refine h _ _ (hans _ _ ?_ (by decide))
     rw [hq,nameL_1 (by simpa using h2) (by simpa using h3) h4];exact Prod.ext hcell.symm rfl
    ·have h2:A.not b=false:=by assumption
     have h3:A.seq (A.asStr (A.cell d1 (Int.ofNat j) 0)) (A.asStr (A.cell d1 (A.sub (Int.ofNat j) 1) 0))=false:=by assumption
     have h4:A.slt (A.asStr (A.cell d1 (Int.ofNat j) 0)) (A.asStr (A.cell d1 (A.sub (Int.ofNat j) 1) 0))=false:=by assumption
     rw [hneg,hb] at h2
     rw [hcell,hp2,hsq] at h3
     rw [hcell,hp2,hsl] at h4
     refine ⟨j+1,⟨by omega,?_⟩,by omega,?_⟩
     ·rw [hpr,hq,nameL_s (by simpa using h2) (by simpa using h3) h4]
     (cbv;repeat' apply And.intro);all_goals try first|trivial|rfl|(rw [X.a];rfl)
   |false=>
    rw [hcn hz] at hq
    cbv
    repeat' (first|apply And.intro|exact fun (_:FF)=>by kernel_rfl|(intro h2;first|exact absurd ((hz).symm.trans h2) (by decide)|cbv)|apply Or.inl)
    any_goals first|exact hin
    ·have h2:A.not b=true:=by assumption
     rw [hneg,hb] at h2
     refine h _ _ (hans _ _ ?_ (by decide))
     rw [hq,nameL_f (by simpa using h2)];exact Prod.ext hcell.symm rfl
    ·have h2:A.not b=false:=by assumption
     rw [hneg,hb] at h2
     refine ⟨j+1,⟨by omega,?_⟩,by omega,?_⟩
     ·rw [hpr,hq,nameL_n (by simpa using h2)]
     (cbv;repeat' apply And.intro);all_goals try first|trivial|rfl|(rw [X.a];rfl)
  ·have h5:j=n_d1:=by obtain rfl:=X.a;simp only [hlen_d1,SD,bNot] at h1;omega
   rw [h5,hn_d1,List.drop_length] at hq
   have hz:E1=([],0):=by rw [hq];unfold nameL;cases prevO (nmV i) ((nmV i).length)<;>rfl
   have hin:A.inr .i64 (A.add (Int.ofNat 1) 1):=hin4 1 (by decide)
   cbv
   repeat' (first|apply And.intro|exact fun (_:FF)=>by kernel_rfl|(intro h2;cbv)|apply Or.inl)
   any_goals exact hin
   refine ⟨2,⟨by decide,fun _=>w0 (by decide),fun _=>by rw [hz],fun h=>absurd h (by decide),fun h=>absurd h (by decide)⟩,by decide,?_⟩
   (cbv;repeat' apply And.intro);all_goals try first|trivial|rfl|(rw [X.a];rfl)
 ·have hlit1:A.lt (Int.ofNat 2) 4=true:=by rw [hlt];rfl
  have hlit0:A.lt (Int.ofNat 2) 4≠false:=by rw [hlit1];decide
  have hll:(nmA i).length≤1048576:=by rw [nmA,List.length_map];exact nA
  have hsz:∀ s∈nmA i,s.length≤4294967295:=by
   intro s hs
   obtain ⟨x,hx,rfl⟩:=List.mem_map.1 hs
   exact Nat.le_trans (hi.a x hx).n (by decide)
  have hans:∀ (s:S) (r:Int),E2=(s,r)→r≠0→(s,r)=orE E0 (orE E1 (orE E2 (orE E3 ([],0)))):=by
   intro s r e hr
   rw [orE,if_neg (by rw [w0 (by decide)];decide)];rw [orE,if_neg (by rw [w1 (by decide)];decide)];rw [orE,if_pos (by rw [e];exact hr),e]
  obtain ⟨n_d2,hn_d2,hlen_d2⟩:=lenOf hd2
  cbv
  refine ⟨fun h1=> ?_,fun h1=>absurd h1 hlit0⟩
  cbv
  refine X.loop (fun (j:Nat)=>⟨[(22,.int .i64 j),(21,.int .i64 (A.len d2)),(20,.lst 9 d2),(7,.lst 9 d2),(6,.int .i64 2),(16,.int .i64 2),(15,.agg [.lst 9 d0,.lst 9 d1,.lst 9 d2,.lst 9 d3]),(5,.box 2 0),(4,.box 1 0),(1,.box 0 0)],[.box [.lst 40 de,.str c0,.lst 51 c1,.lst 101 c2,.lst 106 c3,.lst 119 c4],.box [.lst 9 d0,.lst 9 d1,.lst 9 d2,.lst 9 d3],.box [.clos 95 [],.clos 96 [],.clos 119 [],.clos 119 []]]⟩) (fun j=>j≤n_d2∧E2=nameL eithB (prevO (nmA i) j) ((nmA i).drop j)) (fun j=>n_d2-j) 0 ⟨Nat.zero_le _,hE2⟩ ?_ ?_
  ·(cbv;repeat' apply And.intro);all_goals try first|trivial|rfl|(rw [X.a];rfl)
  rintro j ⟨hj,hq⟩
  cbv
  refine ⟨fun h1=> ?_,fun h1=> ?_⟩
  ·have h5:j<(nmA i).length:=by obtain rfl:=X.a;simp only [hlen_d2,SD,bNot] at h1;omega
   have hid:A.idx (Int.ofNat j) (A.len d2):=by rw [X.a,hd2];exact leaf_idx h5
   have hin:A.inr .i64 (A.add (Int.ofNat j) 1):=by rw [X.a];exact leaf_inc h5 (by omega)
   have hcell:A.asStr (A.cell d2 (Int.ofNat j) 0)=(nmA i)[j]:=by rw [cellAt X.a hd2 h5,X.a];rfl
   have hcl:(A.asStr (A.cell d2 (Int.ofNat j) 0)).length≤4294967295:=by rw [hcell];exact hsz _ (List.getElem_mem h5)
   have hin1:A.lt 0 (Int.ofNat j)=true→A.inr .i64 (A.sub (Int.ofNat j) 1):=by
    intro h;rw [hlt] at h;have h:=of_decide_eq_true h;rw [X.a];simp only [SD,bNot] at *;omega
   have hid1:A.lt 0 (Int.ofNat j)=true→A.idx (A.sub (Int.ofNat j) 1) (A.len d2):=by
    intro h;rw [hlt] at h;have h:=of_decide_eq_true h;rw [X.a] at *;simp only [hlen_d2,SD,bNot] at *;omega
   have hcp:A.lt 0 (Int.ofNat j)=true→∃ p,prevO (nmA i) j=some p∧A.asStr (A.cell d2 (A.sub (Int.ofNat j) 1) 0)=p:=by
    intro h;rw [hlt] at h;have h:=of_decide_eq_true h
    simp only [Int.ofNat_eq_natCast] at h
    have hjp:j-1<(nmA i).length:=by omega
    refine ⟨(nmA i)[j-1],?_,?_⟩
    ·rw [prevO,if_neg (by omega)];simp [List.getD,hjp]
    ·rw [show A.sub (Int.ofNat j) 1=Int.ofNat (j-1) by rw [X.a];simp only [SD,bNot];omega,cellAt X.a hd2 hjp,X.a];rfl
   have hcn:A.lt 0 (Int.ofNat j)=false→prevO (nmA i) j=none:=by
    intro h;rw [hlt] at h;have h:=of_decide_eq_false h
    simp only [Int.ofNat_eq_natCast] at h
    rw [prevO,if_pos (by omega)]
   have hpr:prevO (nmA i) (j+1)=some (nmA i)[j]:=by rw [prevO,if_neg (by omega)];simp [List.getD,h5]
   obtain ⟨sj,hsj⟩:∃ x,x=(nmA i)[j]:=⟨_,rfl⟩
   rw [List.drop_eq_getElem_cons h5,←hsj] at hq
   rw [← hsj] at hpr hcell
   cbv
   repeat' (first|apply And.intro|exact fun (_:FF)=>by kernel_rfl|(intro h2;cbv)|apply Or.inl)
   any_goals exact hid
   refine X.call (F119 hcl fun b hb=> ?_)
   have hb:b=eithB sj:=by rw [← hcell];exact hb
   cases hz:A.lt 0 (Int.ofNat j) with
   |true=>
    obtain ⟨p,hp1,hp2⟩:=hcp hz
    rw [hp1] at hq
    cbv
    repeat' (first|apply And.intro|exact fun (_:FF)=>by kernel_rfl|(intro h2;first|exact absurd ((hz).symm.trans h2) (by decide)|cbv)|apply Or.inl)
    any_goals first|exact hin|exact hin1 hz|exact hid1 hz
    ·have h2:A.not b=true:=by assumption
     rw [hneg,hb] at h2
     refine h _ _ (hans _ _ ?_ (by decide))
     rw [hq,nameL_f (by simpa using h2)];exact Prod.ext hcell.symm rfl
    ·have h2:A.not b=false:=by assumption
     have h3:A.seq (A.asStr (A.cell d2 (Int.ofNat j) 0)) (A.asStr (A.cell d2 (A.sub (Int.ofNat j) 1) 0))=true:=by assumption
     rw [hneg,hb] at h2
     rw [hcell,hp2,hsq] at h3
     refine h _ _ (hans _ _ ?_ (by decide))
     rw [hq,nameL_5 (by simpa using h2) (by simpa using h3)];exact Prod.ext hcell.symm rfl
    ·have h2:A.not b=false:=by assumption
     have h3:A.seq (A.asStr (A.cell d2 (Int.ofNat j) 0)) (A.asStr (A.cell d2 (A.sub (Int.ofNat j) 1) 0))=false:=by assumption
     have h4:A.slt (A.asStr (A.cell d2 (Int.ofNat j) 0)) (A.asStr (A.cell d2 (A.sub (Int.ofNat j) 1) 0))=true:=by assumption
     rw [hneg,hb] at h2
     rw [hcell,hp2,hsq] at h3
     rw [hcell,hp2,hsl] at h4
     refine h _ _ (hans _ _ ?_ (by decide))
     rw [hq,nameL_1 (by simpa using h2) (by simpa using h3) h4];exact Prod.ext hcell.symm rfl
    ·have h2:A.not b=false:=by assumption
     have h3:A.seq (A.asStr (A.cell d2 (Int.ofNat j) 0)) (A.asStr (A.cell d2 (A.sub (Int.ofNat j) 1) 0))=false:=by assumption
     have h4:A.slt (A.asStr (A.cell d2 (Int.ofNat j) 0)) (A.asStr (A.cell d2 (A.sub (Int.ofNat j) 1) 0))=false:=by assumption
     rw [hneg,hb] at h2
     rw [hcell,hp2,hsq] at h3
     rw [hcell,hp2,hsl] at h4
     refine ⟨j+1,⟨by omega,?_⟩,by omega,?_⟩
     ·rw [hpr,hq,nameL_s (by simpa using h2) (by simpa using h3) h4]
     (cbv;repeat' apply And.intro);all_goals try first|trivial|rfl|(rw [X.a];rfl)
   |false=>
    rw [hcn hz] at hq
    cbv
    repeat' (first|apply And.intro|exact fun (_:FF)=>by kernel_rfl|(intro h2;first|exact absurd ((hz).symm.trans h2) (by decide)|cbv)|apply Or.inl)
    any_goals first|exact hin
    ·have h2:A.not b=true:=by assumption
     rw [hneg,hb] at h2
     refine h _ _ (hans _ _ ?_ (by decide))
     rw [hq,nameL_f (by simpa using h2)];exact Prod.ext hcell.symm rfl
    ·have h2:A.not b=false:=by assumption
     rw [hneg,hb] at h2
     refine ⟨j+1,⟨by omega,?_⟩,by omega,?_⟩
     ·rw [hpr,hq,nameL_n (by simpa using h2)]
     (cbv;repeat' apply And.intro);all_goals try first|trivial|rfl|(rw [X.a];rfl)
  ·have h5:j=n_d2:=by obtain rfl:=X.a;simp only [hlen_d2,SD,bNot] at h1;omega
   rw [h5,hn_d2,List.drop_length] at hq
   have hz:E2=([],0):=by rw [hq];unfold nameL;cases prevO (nmA i) ((nmA i).length)<;>rfl
   have hin:A.inr .i64 (A.add (Int.ofNat 2) 1):=hin4 2 (by decide)
   cbv
   repeat' (first|apply And.intro|exact fun (_:FF)=>by kernel_rfl|(intro h2;cbv)|apply Or.inl)
   any_goals exact hin
   refine ⟨3,⟨by decide,fun _=>w0 (by decide),fun _=>w1 (by decide),fun _=>by rw [hz],fun h=>absurd h (by decide)⟩,by decide,?_⟩
   (cbv;repeat' apply And.intro);all_goals try first|trivial|rfl|(rw [X.a];rfl)
 ·have hlit1:A.lt (Int.ofNat 3) 4=true:=by rw [hlt];rfl
  have hlit0:A.lt (Int.ofNat 3) 4≠false:=by rw [hlit1];decide
  have hll:(nmD i).length≤1048576:=by rw [nmD,List.length_map];exact nD
  have hsz:∀ s∈nmD i,s.length≤4294967295:=by
   intro s hs
   obtain ⟨x,hx,rfl⟩:=List.mem_map.1 hs
   exact Nat.le_trans (hi.d x hx).n (by decide)
  have hans:∀ (s:S) (r:Int),E3=(s,r)→r≠0→(s,r)=orE E0 (orE E1 (orE E2 (orE E3 ([],0)))):=by
   intro s r e hr
   rw [orE,if_neg (by rw [w0 (by decide)];decide)];rw [orE,if_neg (by rw [w1 (by decide)];decide)];rw [orE,if_neg (by rw [w2 (by decide)];decide)];rw [orE,if_pos (by rw [e];exact hr),e]
  obtain ⟨n_d3,hn_d3,hlen_d3⟩:=lenOf hd3
  cbv
  refine ⟨fun h1=> ?_,fun h1=>absurd h1 hlit0⟩
  cbv
  refine X.loop (fun (j:Nat)=>⟨[(22,.int .i64 j),(21,.int .i64 (A.len d3)),(20,.lst 9 d3),(7,.lst 9 d3),(6,.int .i64 3),(16,.int .i64 3),(15,.agg [.lst 9 d0,.lst 9 d1,.lst 9 d2,.lst 9 d3]),(5,.box 2 0),(4,.box 1 0),(1,.box 0 0)],[.box [.lst 40 de,.str c0,.lst 51 c1,.lst 101 c2,.lst 106 c3,.lst 119 c4],.box [.lst 9 d0,.lst 9 d1,.lst 9 d2,.lst 9 d3],.box [.clos 95 [],.clos 96 [],.clos 119 [],.clos 119 []]]⟩) (fun j=>j≤n_d3∧E3=nameL eithB (prevO (nmD i) j) ((nmD i).drop j)) (fun j=>n_d3-j) 0 ⟨Nat.zero_le _,hE3⟩ ?_ ?_
  ·(cbv;repeat' apply And.intro);all_goals try first|trivial|rfl|(rw [X.a];rfl)
  rintro j ⟨hj,hq⟩
  cbv
  refine ⟨fun h1=> ?_,fun h1=> ?_⟩
  ·have h5:j<(nmD i).length:=by obtain rfl:=X.a;simp only [hlen_d3,SD,bNot] at h1;omega
   have hid:A.idx (Int.ofNat j) (A.len d3):=by rw [X.a,hd3];exact leaf_idx h5
   have hin:A.inr .i64 (A.add (Int.ofNat j) 1):=by rw [X.a];exact leaf_inc h5 (by omega)
   have hcell:A.asStr (A.cell d3 (Int.ofNat j) 0)=(nmD i)[j]:=by rw [cellAt X.a hd3 h5,X.a];rfl
   have hcl:(A.asStr (A.cell d3 (Int.ofNat j) 0)).length≤4294967295:=by rw [hcell];exact hsz _ (List.getElem_mem h5)
   have hin1:A.lt 0 (Int.ofNat j)=true→A.inr .i64 (A.sub (Int.ofNat j) 1):=by
    intro h;rw [hlt] at h;have h:=of_decide_eq_true h;rw [X.a];simp only [SD,bNot] at *;omega
   have hid1:A.lt 0 (Int.ofNat j)=true→A.idx (A.sub (Int.ofNat j) 1) (A.len d3):=by
    intro h;rw [hlt] at h;have h:=of_decide_eq_true h;rw [X.a] at *;simp only [hlen_d3,SD,bNot] at *;omega
   have hcp:A.lt 0 (Int.ofNat j)=true→∃ p,prevO (nmD i) j=some p∧A.asStr (A.cell d3 (A.sub (Int.ofNat j) 1) 0)=p:=by
    intro h;rw [hlt] at h;have h:=of_decide_eq_true h
    simp only [Int.ofNat_eq_natCast] at h
    have hjp:j-1<(nmD i).length:=by omega
    refine ⟨(nmD i)[j-1],?_,?_⟩
    ·rw [prevO,if_neg (by omega)];simp [List.getD,hjp]
    ·rw [show A.sub (Int.ofNat j) 1=Int.ofNat (j-1) by rw [X.a];simp only [SD,bNot];omega,cellAt X.a hd3 hjp,X.a];rfl
   have hcn:A.lt 0 (Int.ofNat j)=false→prevO (nmD i) j=none:=by
    intro h;rw [hlt] at h;have h:=of_decide_eq_false h
    simp only [Int.ofNat_eq_natCast] at h
    rw [prevO,if_pos (by omega)]
   have hpr:prevO (nmD i) (j+1)=some (nmD i)[j]:=by rw [prevO,if_neg (by omega)];simp [List.getD,h5]
   obtain ⟨sj,hsj⟩:∃ x,x=(nmD i)[j]:=⟨_,rfl⟩
   rw [List.drop_eq_getElem_cons h5,←hsj] at hq
   rw [← hsj] at hpr hcell
   cbv
   repeat' (first|apply And.intro|exact fun (_:FF)=>by kernel_rfl|(intro h2;cbv)|apply Or.inl)
   any_goals exact hid
   refine X.call (F119 hcl fun b hb=> ?_)
   have hb:b=eithB sj:=by rw [← hcell];exact hb
   cases hz:A.lt 0 (Int.ofNat j) with
   |true=>
    obtain ⟨p,hp1,hp2⟩:=hcp hz
    rw [hp1] at hq
    cbv
    repeat' (first|apply And.intro|exact fun (_:FF)=>by kernel_rfl|(intro h2;first|exact absurd ((hz).symm.trans h2) (by decide)|cbv)|apply Or.inl)
    any_goals first|exact hin|exact hin1 hz|exact hid1 hz
    ·have h2:A.not b=true:=by assumption
     rw [hneg,hb] at h2
     refine h _ _ (hans _ _ ?_ (by decide))
     rw [hq,nameL_f (by simpa using h2)];exact Prod.ext hcell.symm rfl
    ·have h2:A.not b=false:=by assumption
     have h3:A.seq (A.asStr (A.cell d3 (Int.ofNat j) 0)) (A.asStr (A.cell d3 (A.sub (Int.ofNat j) 1) 0))=true:=by assumption
     rw [hneg,hb] at h2
     rw [hcell,hp2,hsq] at h3
     refine h _ _ (hans _ _ ?_ (by decide))
     rw [hq,nameL_5 (by simpa using h2) (by simpa using h3)];exact Prod.ext hcell.symm rfl
    ·have h2:A.not b=false:=by assumption
     have h3:A.seq (A.asStr (A.cell d3 (Int.ofNat j) 0)) (A.asStr (A.cell d3 (A.sub (Int.ofNat j) 1) 0))=false:=by assumption
     have h4:A.slt (A.asStr (A.cell d3 (Int.ofNat j) 0)) (A.asStr (A.cell d3 (A.sub (Int.ofNat j) 1) 0))=true:=by assumption
     rw [hneg,hb] at h2
     rw [hcell,hp2,hsq] at h3
     rw [hcell,hp2,hsl] at h4
     refine h _ _ (hans _ _ ?_ (by decide))
     rw [hq,nameL_1 (by simpa using h2) (by simpa using h3) h4];exact Prod.ext hcell.symm rfl
    ·have h2:A.not b=false:=by assumption
     have h3:A.seq (A.asStr (A.cell d3 (Int.ofNat j) 0)) (A.asStr (A.cell d3 (A.sub (Int.ofNat j) 1) 0))=false:=by assumption
     have h4:A.slt (A.asStr (A.cell d3 (Int.ofNat j) 0)) (A.asStr (A.cell d3 (A.sub (Int.ofNat j) 1) 0))=false:=by assumption
     rw [hneg,hb] at h2
     rw [hcell,hp2,hsq] at h3
     rw [hcell,hp2,hsl] at h4
     refine ⟨j+1,⟨by omega,?_⟩,by omega,?_⟩
     ·rw [hpr,hq,nameL_s (by simpa using h2) (by simpa using h3) h4]
     (cbv;repeat' apply And.intro);all_goals try first|trivial|rfl|(rw [X.a];rfl)
   |false=>
    rw [hcn hz] at hq
    cbv
    repeat' (first|apply And.intro|exact fun (_:FF)=>by kernel_rfl|(intro h2;first|exact absurd ((hz).symm.trans h2) (by decide)|cbv)|apply Or.inl)
    any_goals first|exact hin
    ·have h2:A.not b=true:=by assumption
     rw [hneg,hb] at h2
     refine h _ _ (hans _ _ ?_ (by decide))
     rw [hq,nameL_f (by simpa using h2)];exact Prod.ext hcell.symm rfl
    ·have h2:A.not b=false:=by assumption
     rw [hneg,hb] at h2
     refine ⟨j+1,⟨by omega,?_⟩,by omega,?_⟩
     ·rw [hpr,hq,nameL_n (by simpa using h2)]
     (cbv;repeat' apply And.intro);all_goals try first|trivial|rfl|(rw [X.a];rfl)
  ·have h5:j=n_d3:=by obtain rfl:=X.a;simp only [hlen_d3,SD,bNot] at h1;omega
   rw [h5,hn_d3,List.drop_length] at hq
   have hz:E3=([],0):=by rw [hq];unfold nameL;cases prevO (nmD i) ((nmD i).length)<;>rfl
   have hin:A.inr .i64 (A.add (Int.ofNat 3) 1):=hin4 3 (by decide)
   cbv
   repeat' (first|apply And.intro|exact fun (_:FF)=>by kernel_rfl|(intro h2;cbv)|apply Or.inl)
   any_goals exact hin
   refine ⟨4,⟨by decide,fun _=>w0 (by decide),fun _=>w1 (by decide),fun _=>w2 (by decide),fun _=>by rw [hz]⟩,by decide,?_⟩
   (cbv;repeat' apply And.intro);all_goals try first|trivial|rfl|(rw [X.a];rfl)
 ·have hlit1:A.lt (Int.ofNat 4) 4=false:=by rw [hlt];rfl
  have hlit0:A.lt (Int.ofNat 4) 4≠true:=by rw [hlit1];decide
  cbv
  refine ⟨fun h1=>absurd h1 hlit0,fun h1=> ?_⟩
  cbv
  refine h [] 0 ?_
  rw [orE,if_neg (by rw [w0 (by decide)];decide),orE,if_neg (by rw [w1 (by decide)];decide),orE,if_neg (by rw [w2 (by decide)];decide),orE,if_neg (by rw [w3 (by decide)];decide)]
end Go.VC.T07
end

section
namespace Go.VC
theorem entL_0 {α:Type} {e:α→Int} {n:α→S}:∀ {l:List α},(∀ x∈l,e x=0)→entL e n l=([],0)
 |[],_=>rfl
 |x::l,h=>by rw [entL,if_neg (by rw [h x (by simp)];decide)];exact entL_0 fun y hy=>h y (by simp [hy])
end Go.VC
namespace Go.VC.T07
open Go Go.VC Go.Proofs
theorem F35 {i:IF} (hi:i.fit) {de:D} {c0:S} {c1 c2 c3 c4:D} (hc:ifIs i c0 c1 c2 c3 c4) {K:PV→List Ob→Prop} (h:∀ (s:S) (r:Int),(s,r)=diffE i→K (.tup [.str s,.int .i64 r]) []):
  FC Tryz.prog tt 35 [] [chkPV de c0 c1 c2 c3 c4] K:=by
 refine FC.enter (G:=g35) tt_ok mixed ⟨Tryz.func35,by rfl,rfl⟩ rfl rfl rfl ?_
 intro A C L X
 have nT:(nmT i).length≤4294967295:=by rw [nmT,List.length_map];exact hi.ok.nt
 have nV:(nmV i).length≤4294967295:=by rw [nmV,List.length_map];exact hi.ok.nv
 have nA:(nmA i).length≤4294967295:=by rw [nmA,List.length_map];exact hi.ok.na
 cbv
 refine X.call (F71 hi hc fun d0 d1 d2 d3 hd0 hd1 hd2 hd3=> ?_)
 obtain ⟨GT,hGT⟩:∃ G:S→Bool,∀ s,(nmT i).contains s=G s:=⟨fun s=>(nmT i).contains s,fun _=>rfl⟩
 obtain ⟨GV,hGV⟩:∃ G:S→Bool,∀ s,(nmV i).contains s=G s:=⟨fun s=>(nmV i).contains s,fun _=>rfl⟩
 obtain ⟨E0,hE0⟩:∃ x,x=inL GT (nmV i):=⟨_,rfl⟩
 obtain ⟨E1,hE1⟩:∃ x,x=inL (fun s=>GT s||GV s) (nmA i):=⟨_,rfl⟩
 have hD:diffE i=orE E0 E1:=by
  rw [hE0,hE1];unfold diffE
  rw [show (nmT i).contains=GT from funext hGT,show (nmV i).contains=GV from funext hGV]
 rw [hD] at h
 obtain ⟨n_d1,hn_d1,hlen_d1⟩:=lenOf hd1
 cbv
 refine X.loop (fun (j:Nat)=>⟨[(18,.int .i64 j),(17,.int .i64 (A.len d1)),(16,.lst 9 d1),(5,.box 2 0),(4,.box 1 0),(1,.box 0 0)],[.box [.lst 40 de,.str c0,.lst 51 c1,.lst 101 c2,.lst 106 c3,.lst 119 c4],.box [.lst 9 d0,.lst 9 d1,.lst 9 d2,.lst 9 d3],.box [.clos 95 [],.clos 96 [],.clos 119 [],.clos 119 []]]⟩) (fun j=>j≤n_d1∧E0=inL GT ((nmV i).drop j)) (fun j=>n_d1-j) 0 ⟨Nat.zero_le _,hE0⟩ ?_ ?_
 ·(cbv;repeat' apply And.intro);all_goals try first|trivial|rfl|(rw [X.a];rfl)
 rintro j ⟨hj,hq⟩
 cbv
 refine ⟨fun h1=> ?_,fun h1=> ?_⟩
 ·have h5:j<(nmV i).length:=by obtain rfl:=X.a;simp only [hlen_d1,SD,bNot] at h1;omega
  have hid:A.idx (Int.ofNat j) (A.len d1):=by rw [X.a,hd1];exact leaf_idx h5
  have hin:A.inr .i64 (A.add (Int.ofNat j) 1):=by rw [X.a];exact leaf_inc h5 (by omega)
  have hcell:A.asStr (A.cell d1 (Int.ofNat j) 0)=(nmV i)[j]:=by rw [cellAt X.a hd1 h5,X.a];rfl
  obtain ⟨sj,hsj⟩:∃ x,x=(nmV i)[j]:=⟨_,rfl⟩
  rw [List.drop_eq_getElem_cons h5,←hsj,inL] at hq
  rw [← hsj] at hcell
  cbv
  repeat' (first|apply And.intro|exact fun (_:FF)=>by kernel_rfl|(intro h2;cbv)|apply Or.inl|(refine X.call (F21 hd0 nT fun b1 hb1=> ?_);cbv))
  any_goals first|exact hid|exact hin
  ·have h2:b1=true:=by assumption
   have hb1:b1=GT sj:=by rw [← hGT,←hcell];exact hb1
   refine h _ 5 ?_
   rw [if_pos (by rw [← hb1,h2])] at hq
   rw [hq,orE,if_pos (show (5:Int)≠0 by decide)];exact Prod.ext hcell rfl
  ·have h2:b1=false:=by assumption
   have hb1:b1=GT sj:=by rw [← hGT,←hcell];exact hb1
   rw [if_neg (by rw [← hb1,h2];decide)] at hq
   refine ⟨j+1,⟨by omega,hq⟩,by omega,?_⟩
   (cbv;repeat' apply And.intro);all_goals try first|trivial|rfl|(rw [X.a];rfl)
 have h5:j=n_d1:=by obtain rfl:=X.a;simp only [hlen_d1,SD,bNot] at h1;omega
 have z0:E0=([],0):=by rw [hq,h5,hn_d1,List.drop_length];rfl
 clear hq h1 h5 hj hE0
 obtain ⟨n_d2,hn_d2,hlen_d2⟩:=lenOf hd2
 cbv
 refine X.loop (fun (j:Nat)=>⟨[(31,.int .i64 j),(30,.int .i64 (A.len d2)),(29,.lst 9 d2),(5,.box 2 0),(4,.box 1 0),(1,.box 0 0)],[.box [.lst 40 de,.str c0,.lst 51 c1,.lst 101 c2,.lst 106 c3,.lst 119 c4],.box [.lst 9 d0,.lst 9 d1,.lst 9 d2,.lst 9 d3],.box [.clos 95 [],.clos 96 [],.clos 119 [],.clos 119 []]]⟩) (fun j=>j≤n_d2∧E1=inL (fun s=>GT s||GV s) ((nmA i).drop j)) (fun j=>n_d2-j) 0 ⟨Nat.zero_le _,hE1⟩ ?_ ?_
 ·(cbv;repeat' apply And.intro);all_goals try first|trivial|rfl|(rw [X.a];rfl)
 rintro j ⟨hj,hq⟩
 cbv
 refine ⟨fun h1=> ?_,fun h1=> ?_⟩
 ·have h5:j<(nmA i).length:=by obtain rfl:=X.a;simp only [hlen_d2,SD,bNot] at h1;omega
  have hid:A.idx (Int.ofNat j) (A.len d2):=by rw [X.a,hd2];exact leaf_idx h5
  have hin:A.inr .i64 (A.add (Int.ofNat j) 1):=by rw [X.a];exact leaf_inc h5 (by omega)
  have hcell:A.asStr (A.cell d2 (Int.ofNat j) 0)=(nmA i)[j]:=by rw [cellAt X.a hd2 h5,X.a];rfl
  obtain ⟨sj,hsj⟩:∃ x,x=(nmA i)[j]:=⟨_,rfl⟩
  rw [List.drop_eq_getElem_cons h5,←hsj,inL] at hq
  rw [← hsj] at hcell
  cbv
  repeat' (first|apply And.intro|exact fun (_:FF)=>by kernel_rfl|(intro h2;cbv)|apply Or.inl|(refine X.call (F21 hd0 nT fun b1 hb1=> ?_);cbv)|(refine X.call (F21 hd1 nV fun b2 hb2=> ?_);cbv))
  any_goals first|exact hid|exact hin
  all_goals have hb1:b1=GT sj:=by rw [← hGT,←hcell];exact hb1
  all_goals (try have hb2:b2=GV sj:=by rw [← hGV,←hcell];exact hb2)
  ·have h2:b2=true:=by assumption
   refine h _ 5 ?_
   rw [if_pos (by rw [← hb2,h2,Bool.or_true])] at hq
   rw [z0,hq,orE,if_neg (by decide)];exact Prod.ext hcell rfl
  ·have h2:b2=false:=by assumption
   have h3:b1=false:=by assumption
   rw [if_neg (by rw [← hb1,←hb2,h2,h3];decide)] at hq
   refine ⟨j+1,⟨by omega,hq⟩,by omega,?_⟩
   (cbv;repeat' apply And.intro);all_goals try first|trivial|rfl|(rw [X.a];rfl)
  ·have h2:b1=true:=by assumption
   refine h _ 5 ?_
   rw [if_pos (by rw [← hb1,h2,Bool.true_or])] at hq
   rw [z0,hq,orE,if_neg (by decide)];exact Prod.ext hcell rfl
 have h5:j=n_d2:=by obtain rfl:=X.a;simp only [hlen_d2,SD,bNot] at h1;omega
 have z1:E1=([],0):=by rw [hq,h5,hn_d2,List.drop_length];rfl
 clear hq h1 h5 hj hE1
 cbv
 refine h [] 0 ?_
 rw [z0,z1];rfl
theorem F36 {env:List IF} {de:D} (he:de=encL encIF env) (hok:envOk env) {i:IF} (hi:i.fit) {c0:S} {c1 c2 c3 c4:D} (hc:ifIs i c0 c1 c2 c3 c4) {K:PV→List Ob→Prop} (h:∀ (s:S) (r:Int),(s,r)=entriesE env i→K (.tup [.str s,.int .i64 r]) []):
  FC Tryz.prog tt 36 [] [chkPV de c0 c1 c2 c3 c4] K:=by
 refine FC.enter (G:=g36) tt_ok mixed ⟨Tryz.func36,by rfl,rfl⟩ rfl rfl rfl ?_
 intro A C L X
 have hneg:=negA X.a
 have heq:=eqA X.a
 have nt:=hi.nt
 have nv:=hi.nv
 have na:=hi.na
 obtain ⟨E0,hE0⟩:∃ x,x=entL (typE env i) TE.name i.types:=⟨_,rfl⟩
 obtain ⟨E1,hE1⟩:∃ x,x=entL (valE env) VE.name i.values:=⟨_,rfl⟩
 obtain ⟨E2,hE2⟩:∃ x,x=entL (aliasE env) AE.name i.aliases:=⟨_,rfl⟩
 unfold entriesE at h
 rw [← hE0,←hE1,←hE2] at h
 obtain ⟨n_c1,hn_c1⟩:∃ n,n=i.types.length:=⟨_,rfl⟩
 have hlen_c1:Std.len c1=Int.ofNat n_c1:=by rw [hc.2.1,Std_len,hn_c1];rfl
 cbv
 refine X.loop (fun (j:Nat)=>⟨[(17,.int .i64 j),(16,.int .i64 (A.len c1)),(15,.lst 51 c1),(1,.box 0 0)],[.box [.lst 40 de,.str c0,.lst 51 c1,.lst 101 c2,.lst 106 c3,.lst 119 c4]]⟩) (fun j=>j≤n_c1∧E0=entL (typE env i) TE.name (i.types.drop j)) (fun j=>n_c1-j) 0 ⟨Nat.zero_le _,hE0⟩ ?_ ?_
 ·(cbv;repeat' apply And.intro);all_goals try first|trivial|rfl|(rw [X.a];rfl)
 rintro j ⟨hj,hq⟩
 cbv
 refine ⟨fun h1=> ?_,fun h1=> ?_⟩
 ·have h5:j<i.types.length:=by obtain rfl:=X.a;simp only [hlen_c1,SD,bNot] at h1;omega
  have k1:=teIsAt X.a hc.2.1 h5
  have k0:=k1.1
  have hid:A.idx (Int.ofNat j) (A.len c1):=by rw [X.a,hc.2.1];exact leaf_idx h5
  have hin:A.inr .i64 (A.add (Int.ofNat j) 1):=by rw [X.a];exact leaf_inc h5 (by omega)
  rw [List.drop_eq_getElem_cons h5,entL] at hq
  cbv
  repeat' (first|apply And.intro|exact fun (_:FF)=>by kernel_rfl|(intro h2;cbv)|apply Or.inl)
  any_goals exact hid
  refine X.call (F52 he hok hi (hi.t _ (List.getElem_mem h5)) hc k1 fun r1 hr1=> ?_)
  rw [← hr1] at hq
  cbv
  repeat' (first|apply And.intro|exact fun (_:FF)=>by kernel_rfl|(intro h2;cbv)|apply Or.inl)
  any_goals exact hin
  ·have h2:A.not (A.eq r1 0)=true:=by assumption
   rw [hneg,heq] at h2
   rw [if_pos (by simpa using h2)] at hq
   refine h _ r1 ?_
   rw [hq,orE,if_pos (show r1≠0 by simpa using h2)];exact Prod.ext k0 rfl
  ·have h2:A.not (A.eq r1 0)=false:=by assumption
   rw [hneg,heq] at h2
   have h4:r1=0:=by simpa using h2
   rw [if_neg (by rw [h4];decide)] at hq
   refine ⟨j+1,⟨by omega,hq⟩,by omega,?_⟩
   (cbv;repeat' apply And.intro);all_goals try first|trivial|rfl|(rw [X.a];rfl)
 have h5:j=n_c1:=by obtain rfl:=X.a;simp only [hlen_c1,SD,bNot] at h1;omega
 have z0:E0=([],0):=by rw [hq,h5,hn_c1,List.drop_length];rfl
 clear hq h1 h5 hj hE0
 obtain ⟨n_c2,hn_c2⟩:∃ n,n=i.values.length:=⟨_,rfl⟩
 have hlen_c2:Std.len c2=Int.ofNat n_c2:=by rw [hc.2.2.1,Std_len,hn_c2];rfl
 cbv
 refine X.loop (fun (j:Nat)=>⟨[(34,.int .i64 j),(33,.int .i64 (A.len c2)),(32,.lst 101 c2),(1,.box 0 0)],[.box [.lst 40 de,.str c0,.lst 51 c1,.lst 101 c2,.lst 106 c3,.lst 119 c4]]⟩) (fun j=>j≤n_c2∧E1=entL (valE env) VE.name (i.values.drop j)) (fun j=>n_c2-j) 0 ⟨Nat.zero_le _,hE1⟩ ?_ ?_
 ·(cbv;repeat' apply And.intro);all_goals try first|trivial|rfl|(rw [X.a];rfl)
 rintro j ⟨hj,hq⟩
 cbv
 refine ⟨fun h1=> ?_,fun h1=> ?_⟩
 ·have h5:j<i.values.length:=by obtain rfl:=X.a;simp only [hlen_c2,SD,bNot] at h1;omega
  have k1:=veIsAt X.a hc.2.2.1 h5
  have k0:=k1.1
  have hid:A.idx (Int.ofNat j) (A.len c2):=by rw [X.a,hc.2.2.1];exact leaf_idx h5
  have hin:A.inr .i64 (A.add (Int.ofNat j) 1):=by rw [X.a];exact leaf_inc h5 (by omega)
  rw [List.drop_eq_getElem_cons h5,entL] at hq
  cbv
  repeat' (first|apply And.intro|exact fun (_:FF)=>by kernel_rfl|(intro h2;cbv)|apply Or.inl)
  any_goals exact hid
  refine X.call (F55 he hok (hi.v _ (List.getElem_mem h5)) k1 fun r1 hr1=> ?_)
  rw [← hr1] at hq
  cbv
  repeat' (first|apply And.intro|exact fun (_:FF)=>by kernel_rfl|(intro h2;cbv)|apply Or.inl)
  any_goals exact hin
  ·have h2:A.not (A.eq r1 0)=true:=by assumption
   rw [hneg,heq] at h2
   rw [if_pos (by simpa using h2)] at hq
   refine h _ r1 ?_
   rw [z0,hq,orE,if_neg (by decide),orE,if_pos (show r1≠0 by simpa using h2)];exact Prod.ext k0 rfl
  ·have h2:A.not (A.eq r1 0)=false:=by assumption
   rw [hneg,heq] at h2
   have h4:r1=0:=by simpa using h2
   rw [if_neg (by rw [h4];decide)] at hq
   refine ⟨j+1,⟨by omega,hq⟩,by omega,?_⟩
   (cbv;repeat' apply And.intro);all_goals try first|trivial|rfl|(rw [X.a];rfl)
 have h5:j=n_c2:=by obtain rfl:=X.a;simp only [hlen_c2,SD,bNot] at h1;omega
 have z1:E1=([],0):=by rw [hq,h5,hn_c2,List.drop_length];rfl
 clear hq h1 h5 hj hE1
 obtain ⟨n_c3,hn_c3⟩:∃ n,n=i.aliases.length:=⟨_,rfl⟩
 have hlen_c3:Std.len c3=Int.ofNat n_c3:=by rw [hc.2.2.2.1,Std_len,hn_c3];rfl
 cbv
 refine X.loop (fun (j:Nat)=>⟨[(51,.int .i64 j),(50,.int .i64 (A.len c3)),(49,.lst 106 c3),(1,.box 0 0)],[.box [.lst 40 de,.str c0,.lst 51 c1,.lst 101 c2,.lst 106 c3,.lst 119 c4]]⟩) (fun j=>j≤n_c3∧E2=entL (aliasE env) AE.name (i.aliases.drop j)) (fun j=>n_c3-j) 0 ⟨Nat.zero_le _,hE2⟩ ?_ ?_
 ·(cbv;repeat' apply And.intro);all_goals try first|trivial|rfl|(rw [X.a];rfl)
 rintro j ⟨hj,hq⟩
 cbv
 refine ⟨fun h1=> ?_,fun h1=> ?_⟩
 ·have h5:j<i.aliases.length:=by obtain rfl:=X.a;simp only [hlen_c3,SD,bNot] at h1;omega
  have k1:=aeIsAt X.a hc.2.2.2.1 h5
  have k0:=k1.1
  have hid:A.idx (Int.ofNat j) (A.len c3):=by rw [X.a,hc.2.2.2.1];exact leaf_idx h5
  have hin:A.inr .i64 (A.add (Int.ofNat j) 1):=by rw [X.a];exact leaf_inc h5 (by omega)
  rw [List.drop_eq_getElem_cons h5,entL] at hq
  cbv
  repeat' (first|apply And.intro|exact fun (_:FF)=>by kernel_rfl|(intro h2;cbv)|apply Or.inl)
  any_goals exact hid
  refine X.call (F58 he hok (hi.a _ (List.getElem_mem h5)) k1 fun r1 hr1=> ?_)
  rw [← hr1] at hq
  cbv
  repeat' (first|apply And.intro|exact fun (_:FF)=>by kernel_rfl|(intro h2;cbv)|apply Or.inl)
  any_goals exact hin
  ·have h2:A.not (A.eq r1 0)=true:=by assumption
   rw [hneg,heq] at h2
   rw [if_pos (by simpa using h2)] at hq
   refine h _ r1 ?_
   rw [z0,z1,hq,orE,if_neg (by decide),orE,if_neg (by decide)];exact Prod.ext k0 rfl
  ·have h2:A.not (A.eq r1 0)=false:=by assumption
   rw [hneg,heq] at h2
   have h4:r1=0:=by simpa using h2
   rw [if_neg (by rw [h4];decide)] at hq
   refine ⟨j+1,⟨by omega,hq⟩,by omega,?_⟩
   (cbv;repeat' apply And.intro);all_goals try first|trivial|rfl|(rw [X.a];rfl)
 have h5:j=n_c3:=by obtain rfl:=X.a;simp only [hlen_c3,SD,bNot] at h1;omega
 have z2:E2=([],0):=by rw [hq,h5,hn_c3,List.drop_length];rfl
 clear hq h1 h5 hj hE2
 cbv
 refine h [] 0 ?_
 rw [z0,z1,z2];rfl
end Go.VC.T07
end

section
namespace Go.VC
open Go
section
variable {P:Program} {tt:TypeId→Option TI} {f:FuncId} {args:List PV} {K:PV→List Ob→Prop}
theorem FC.newRow0 {e:TypeId} (hE:∀ args w,(callFunc f args).run P w= .ok (.enter f args) w)
  (h:∀ E Pp w vals,WR tt E Pp [] w→VRL tt E Pp vals args→Calls P f ⟨vals⟩ w fun e' w'=>e'= .returned (.slice none 0 0)∧w'=w) (hK:K (.row e 0) [.row e (.list []) true]):FC P tt f [] args K:=by
 intro E Pp w vals hw hv
 refine .inl ⟨hE _ _,(h E Pp w vals hw hv).mono ?_⟩
 rintro e' w' ⟨rfl,rfl⟩
 have hE0:E=[]:=List.eq_nil_of_length_eq_zero (by have:=hw.len;simpa using this)
 subst hE0
 refine ⟨_,[.row0],Pp,[.row e (.list []) true],.row e 0,rfl,fun i x hx=>by simp at hx,fun _ _ h=>h,?_,.row0 _ _ rfl,hK,Fr.refl _ _,fun _ _ h=>.inl h,?_⟩
 ·refine ⟨rfl,hw.pi,?_,?_,hw.gl⟩
  ·intro i o ho hl
   cases i with
   |succ i=>simp at ho
   |zero=>
    simp at ho;subst ho
    exact ⟨_,rfl,rfl⟩
  ·intro i j oi oj ri rj b hi hj _ _ _ _ _ _
   cases i<;>cases j<;>simp at hi hj ⊢
 ·intro i o ri b ho hl hr hb
  cases i with
  |succ i=>simp at ho
  |zero=>simp at hr;subst hr;simp [RI.block?] at hb
end
def noteL (i:IF):List DE→S×Int
 |[]=>([],0)
 |x::l=>if (nmT i++nmV i++nmA i).contains x.name=false then (x.name,6) else if 65536<x.note.length then (x.name,7) else noteL i l
def notesE (i:IF):S×Int:=noteL i i.deprecated
end Go.VC
namespace Go.VC.T07
open Go Go.VC Go.Proofs
theorem F120 {n:Nat} (hn:n≤4294967296) {K:PV→List Ob→Prop} (h:K (.row 9 0) [.row 9 (.list []) true]):FC Tryz.prog tt 120 [] [.nils,.int .i64 (Int.ofNat n)] K:=by
 by_cases h0:n=0
 ·subst h0
  refine FC.newRow0 (enters_of Tryz.func120 (by kernel_rfl) rfl) (fun E Pp w vals hw hv=> ?_) h
  cases hv with|cons v1 _ _ _ h1 hv=>cases hv with|cons v2 _ _ _ h2 hv=>
  cases hv;cases h1;cases h2
  refine (Any8.slices_Grow_room Tryz.laysGrow none 0 0 0 w (by decide) (by decide) (by decide) (by decide)).mono ?_
  rintro e w' ⟨rfl,rfl⟩
  exact ⟨rfl,rfl⟩
 ·refine FC.newRow (e:=9) (rows:=[]) (enters_of Tryz.func120 (by kernel_rfl) rfl) (fun E Pp w vals hw hv=> ?_) h
  cases hv with|cons v1 _ _ _ h1 hv=>cases hv with|cons v2 _ _ _ h2 hv=>
  cases hv;cases h1;cases h2
  obtain ⟨ti,hti,hck,hby,hag⟩:∃ ti,tt 9=some ti∧ti.cks=[.str]∧ti.bytes=16∧ti.agg=false:=⟨_,rfl,rfl,rfl,rfl⟩
  obtain ⟨i0,z,_,hi0,hs,hb,hz,hzc,hza,_⟩:=(tt_ok 9 ti hti).info
  have hs1:i0.size=1:=by rw [hs,hck];rfl
  have hz1:z.cells.size=1:=by rw [hza.2 hag];rfl
  refine (Any8.slices_Grow_grow Tryz.laysGrow i0 z hi0 hz (by rw [hs1];decide) none 0 0 n [] w (by decide) (by omega) ?_ (by omega) (by simp) (fun _=>rfl) (fun a ha=>by cases ha)).mono ?_
  ·rw [hb,hby];omega
  rintro e w' ⟨rfl,rfl⟩
  refine ⟨_,_,1,_,rfl,rfl,Nat.zero_le _,?_,?_⟩
  ·rw [cks9']
   show grownCap w (0+n) 0 9*1≤Array.size _
   have h9:=grownCap_ge w (0+n) 0 9
   show grownCap w (0+n) 0 9*1≤Array.size ([].toArray++Builtin.zeroCells z.cells (0+n-0)++Builtin.zeroCells z.cells (grownCap w (0+n) 0 9-(0+n)))
   generalize grownCap w (0+n) 0 9=G at h9 ⊢
   simp only [Array.size_append,Builtin.zeroCells,Array.size_map,Array.size_range,hz1]
   simp;omega
  ·intro i row hi
   simp at hi
def g72a:Cfg:={tt:=tt,n:=36,own:=[6],live:=[120]}
theorem F72 {ls:List (List S)} {d:D} {K:PV→List Ob→Prop} (hd:d=encL encLS ls) (hl:ls.length≤16) (hll:∀ l∈ls,l.length≤1048576) (h:∀ r,r=encL encS ls.flatten→K (.row 9 0) [.row 9 r true]):
  FC Tryz.prog tt 72 [] [.lst 24 d] K:=by
 refine FC.enterOwn (G:=g72a) tt_ok mixed ⟨Tryz.func72,by rfl,rfl⟩ rfl rfl rfl ?_
 intro A C L X
 obtain ⟨n_d,hn_d,hlen_d⟩:=lenOf hd
 cbv
 refine X.loop (fun (j:Nat×Nat)=>⟨[(11,.int .i64 j.1),(10,.int .i64 (A.len d)),(9,.lst 24 d),(3,.int .i64 j.2),(0,.lst 24 d)],[]⟩) (fun j=>j.1≤n_d∧j.2=((ls.take j.1).map List.length).sum∧j.2≤1048576*j.1) (fun j=>n_d-j.1) (0,0) ⟨Nat.zero_le _,rfl,Nat.zero_le _⟩ ?_ ?_
 ·(cbv;repeat' apply And.intro);all_goals try first|trivial|rfl|(rw [X.a];rfl)
 rintro ⟨j,k⟩ ⟨hj,hk,hk2⟩
 simp only at hj hk hk2
 have hltk:A.lt (Int.ofNat k) 0=false:=by rw [X.a];simp only [SD,bNot];omega
 cbv
 refine ⟨fun h1=> ?_,fun h1=> ?_⟩
 ·have h5:j<ls.length:=by obtain rfl:=X.a;simp only [hlen_d,SD,bNot] at h1;omega
  have hid:A.idx (Int.ofNat j) (A.len d):=by rw [X.a,hd];exact leaf_idx h5
  have hin:A.inr .i64 (A.add (Int.ofNat j) 1):=by rw [X.a];exact leaf_inc h5 (by omega)
  have hcell:A.cell d (Int.ofNat j) 0=encL encS ls[j]:=by rw [cellAt X.a hd h5];rfl
  have hlen1:A.len (A.cell d (Int.ofNat j) 0)=Int.ofNat ls[j].length:=by rw [hcell,X.a,Std_len];rfl
  have hlj:=hll _ (List.getElem_mem h5)
  have hadd:A.add (Int.ofNat k) (A.len (A.cell d (Int.ofNat j) 0))=Int.ofNat (k+ls[j].length):=by rw [hlen1,X.a];rfl
  have hin2:A.inr .i64 (A.add (Int.ofNat k) (A.len (A.cell d (Int.ofNat j) 0))):=by rw [hadd,X.a];simp only [SD,bNot];omega
  have hneg2:A.lt (A.add (Int.ofNat k) (A.len (A.cell d (Int.ofNat j) 0))) 0=false:=by rw [hadd,X.a];simp only [SD,bNot];omega
  cbv
  repeat' (first|apply And.intro|exact fun (_:FF)=>by kernel_rfl|(intro h2;first|exact absurd ((hneg2).symm.trans h2) (by decide)|cbv)|apply Or.inl)
  any_goals first|exact hid|exact hin|exact hin2
  obtain ⟨k2,hk3⟩:∃ k2,k2=k+ls[j].length:=⟨_,rfl⟩
  rw [← hk3] at hadd
  refine ⟨(j+1,k2),⟨by simp only;omega,?_,by simp only;omega⟩,by simp only;omega,?_⟩
  ·simp only;rw [take_succ' h5,List.map_append,List.sum_append,←hk,hk3];simp
  (cbv;repeat' apply And.intro);all_goals try first|trivial|rfl|(rw [X.a];rfl)
  all_goals exact hadd
 have h5:j=n_d:=by obtain rfl:=X.a;simp only [hlen_d,SD,bNot] at h1;omega
 have hkn:k≤4294967296:=by omega
 have hktot:k=(ls.map List.length).sum:=by rw [hk,h5,hn_d,List.take_length]
 clear hk h1
 cbv
 refine X.call (F120 hkn ?_)
 cbv
 refine X.loopP (fun (j:Nat×D)=>⟨[(27,.int .i64 j.1),(26,.int .i64 (A.len d)),(25,.lst 24 d),(6,.row 9 0)],[.row 9 j.2 true]⟩) (fun j=>j.1≤n_d∧j.2=encL encS (ls.take j.1).flatten) (fun j=>n_d-j.1) (0,.list []) ⟨Nat.zero_le _,rfl⟩ ?_ ?_
 ·refine ⟨[0],rfl,?_⟩
  (cbv;repeat' apply And.intro);all_goals try first|trivial|rfl|(rw [X.a];rfl)
 rintro ⟨q,r⟩ ⟨hq,hr⟩
 simp only at hq hr
 cbv
 refine ⟨fun h1=> ?_,fun h1=> ?_⟩
 ·have h5:q<ls.length:=by obtain rfl:=X.a;simp only [hlen_d,SD,bNot] at h1;omega
  have hid:A.idx (Int.ofNat q) (A.len d):=by rw [X.a,hd];exact leaf_idx h5
  have hin:A.inr .i64 (A.add (Int.ofNat q) 1):=by rw [X.a];exact leaf_inc h5 (by omega)
  have hcell:A.cell d (Int.ofNat q) 0=encL encS ls[q]:=by rw [cellAt X.a hd h5];rfl
  have hlen1:A.len (A.cell d (Int.ofNat q) 0)=Int.ofNat ls[q].length:=by rw [hcell,X.a,Std_len];rfl
  have hfl:(ls.take (q+1)).flatten=(ls.take q).flatten++ls[q]:=by rw [take_succ' h5,List.flatten_append];simp
  have hfb:((ls.take (q+1)).flatten).length≤k:=by
   rw [hktot,List.length_flatten]
   have:(ls.map List.length).sum=((ls.take (q+1)).map List.length).sum+((ls.drop (q+1)).map List.length).sum:=by
    rw [← List.sum_append,←List.map_append,List.take_append_drop]
   omega
  have happ:A.app r (A.cell d (Int.ofNat q) 0)=encL encS (ls.take (q+1)).flatten:=by rw [hfl,hcell,X.a,hr];exact Std_app
  have hbn:A.bnd (A.add (A.len r) (A.len (A.cell d (Int.ofNat q) 0))) 4294967296:=by
   rw [hlen1,X.a,hr,Std_len];rw [hfl,List.length_append] at hfb;simp only [SD,bNot];omega
  cbv
  repeat' (first|apply And.intro|exact fun (_:FF)=>by kernel_rfl|(intro h2;cbv)|apply Or.inl)
  any_goals first|exact hid|exact hin|exact hbn
  refine ⟨(q+1,_),⟨by simp only;omega,happ⟩,by simp only;omega,[0],rfl,?_⟩
  (cbv;repeat' apply And.intro);all_goals try first|trivial|rfl|(rw [X.a];rfl)
 have h5:q=n_d:=by obtain rfl:=X.a;simp only [hlen_d,SD,bNot] at h1;omega
 rw [h5,hn_d,List.take_length] at hr
 cbv
 exact h r hr
theorem F37 {i:IF} (hi:i.fit) {de:D} {c0:S} {c1 c2 c3 c4:D} (hc:ifIs i c0 c1 c2 c3 c4) {K:PV→List Ob→Prop} (h:∀ (s:S) (r:Int),(s,r)=notesE i→K (.tup [.str s,.int .i64 r]) []):
  FC Tryz.prog tt 37 [] [chkPV de c0 c1 c2 c3 c4] K:=by
 refine FC.enter (G:=g37) tt_ok mixed ⟨Tryz.func37,by rfl,rfl⟩ rfl rfl rfl ?_
 intro A C L X
 have nT:(nmT i).length≤1048576:=by rw [nmT,List.length_map];exact hi.nt
 have nV:(nmV i).length≤1048576:=by rw [nmV,List.length_map];exact hi.nv
 have nA:(nmA i).length≤1048576:=by rw [nmA,List.length_map];exact hi.na
 cbv
 refine X.call (F71 hi hc fun d0 d1 d2 d3 hd0 hd1 hd2 hd3=> ?_)
 obtain ⟨n_c4,hn_c4⟩:∃ n,n=i.deprecated.length:=⟨_,rfl⟩
 have hlen_c4:Std.len c4=Int.ofNat n_c4:=by rw [hc.2.2.2.2,Std_len,hn_c4];rfl
 cbv
 refine X.loopK (fun (j:Nat)=>⟨[(17,.int .i64 j),(16,.int .i64 (A.len c4)),(15,.lst 119 c4),(5,.box 1 0),(4,.pptr [.lst 9 d0,.lst 9 d1,.lst 9 d2,.lst 9 d3] 0),(1,.box 0 0)],[.box [.lst 40 de,.str c0,.lst 51 c1,.lst 101 c2,.lst 106 c3,.lst 119 c4],.box [.clos 95 [],.clos 96 [],.clos 119 [],.clos 119 []]]⟩) (fun j=>j≤n_c4∧notesE i=noteL i (i.deprecated.drop j)) (fun j=>n_c4-j) 0 ⟨Nat.zero_le _,rfl⟩ ?_ ?_
 ·refine ⟨[],[1],[0,2],rfl,?_⟩
  (cbv;repeat' apply And.intro);all_goals try first|trivial|rfl|(rw [X.a];rfl)
 rintro j ⟨hj,hq⟩
 cbv
 refine ⟨fun h1=> ?_,fun h1=> ?_⟩
 ·have h5:j<i.deprecated.length:=by obtain rfl:=X.a;simp only [hlen_c4,SD,bNot] at h1;omega
  have k1:=deIsAt X.a hc.2.2.2.2 h5
  have hid:A.idx (Int.ofNat j) (A.len c4):=by rw [X.a,hc.2.2.2.2];exact leaf_idx h5
  have hin:A.inr .i64 (A.add (Int.ofNat j) 1):=by rw [X.a];exact leaf_inc h5 (by have:=hi.nd;omega)
  have hlit:A.lit [[d0],[d1],[d2]]=encL encLS [nmT i,nmV i,nmA i]:=by rw [X.a,hd0,hd1,hd2];rfl
  have hlls:∀ l∈[nmT i,nmV i,nmA i],l.length≤1048576:=by
   intro l hl;simp at hl;rcases hl with rfl|rfl|rfl<;>assumption
  rw [List.drop_eq_getElem_cons h5,noteL] at hq
  cbv
  repeat' (first|apply And.intro|exact fun (_:FF)=>by kernel_rfl|(intro h2;cbv)|apply Or.inl)
  any_goals exact hid
  refine X.call (F72 hlit (show (3:Nat)≤16 by decide) hlls fun r hr=> ?_)
  have hr:r=encL encS (nmT i++nmV i++nmA i):=by rw [hr];simp
  have hrl:(nmT i++nmV i++nmA i).length≤4294967295:=by simp only [List.length_append];omega
  have hneg:=negA X.a
  have hsl:A.lt 65536 (A.slen (A.asStr (A.cell c4 (Int.ofNat j) 1)))=decide (65536<i.deprecated[j].note.length):=by
   rw [k1.2,X.a];show decide ((65536:Int)<(i.deprecated[j].note.length:Int))=_
   rw [decide_eq_decide];omega
  have k0:A.asStr (A.cell c4 (Int.ofNat j) 0)=i.deprecated[j].name:=k1.1
  cbv
  refine X.call (F21 hr hrl fun b hb=> ?_)
  have hb:b=(nmT i++nmV i++nmA i).contains i.deprecated[j].name:=by rw [← k0];exact hb
  rw [show List.elem i.deprecated[j].name (nmT i++nmV i++nmA i)=b from hb.symm] at hq
  clear hb
  cbv
  repeat' (first|apply And.intro|exact fun (_:FF)=>by kernel_rfl|(intro h2;cbv)|apply Or.inl)
  any_goals exact hin
  ·have h2:A.not b=true:=by assumption
   rw [hneg] at h2
   rw [if_pos (by simpa using h2)] at hq
   refine h _ 6 ?_
   rw [hq];exact Prod.ext k0 rfl
  ·have h2:A.not b=false:=by assumption
   have h3:A.lt 65536 (A.slen (A.asStr (A.cell c4 (Int.ofNat j) 1)))=true:=by assumption
   rw [hneg] at h2
   rw [hsl] at h3
   rw [if_neg (by simpa using h2),if_pos (of_decide_eq_true h3)] at hq
   refine h _ 7 ?_
   rw [hq];exact Prod.ext k0 rfl
  ·have h2:A.not b=false:=by assumption
   have h3:A.lt 65536 (A.slen (A.asStr (A.cell c4 (Int.ofNat j) 1)))=false:=by assumption
   rw [hneg] at h2
   rw [hsl] at h3
   rw [if_neg (by simpa using h2),if_neg (of_decide_eq_false h3)] at hq
   refine ⟨j+1,⟨by omega,hq⟩,by omega,[],[],[0,1],rfl,?_⟩
   (cbv;repeat' apply And.intro);all_goals try first|trivial|rfl|(rw [X.a];rfl)
 ·have h5:j=n_c4:=by obtain rfl:=X.a;simp only [hlen_c4,SD,bNot] at h1;omega
  cbv
  refine h [] 0 ?_
  rw [hq,h5,hn_c4,List.drop_length];rfl
end Go.VC.T07
end
