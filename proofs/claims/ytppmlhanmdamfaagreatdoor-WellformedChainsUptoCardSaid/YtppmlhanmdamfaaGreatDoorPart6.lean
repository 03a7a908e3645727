/- Part 6 of the common texts: Z19 Z20 Z21 N1 N3 N4 N5 N6 N7 N10 AW AX MA MB. -/
import Derived.Test.YtppmlhanmdamfaaGreatDoorPart1
import Derived.Test.YtppmlhanmdamfaaGreatDoorPart2
import Derived.Test.YtppmlhanmdamfaaGreatDoorPart3
import Derived.Test.YtppmlhanmdamfaaGreatDoorPart4
import Derived.Test.YtppmlhanmdamfaaGreatDoorPart5
set_option linter.all false
set_option maxRecDepth 100000
set_option maxHeartbeats 16000000

section
namespace Go.VC
noncomputable def ifaceI (env:List IF) (i:IF):S×Int:=orE ([],headE i) (orE (namesE i) (orE (diffE i) (orE (entriesE env i) (orE (notesE i) ([],0)))))
noncomputable def ifaceE (env:List IF) (p:S):S×Int:=match findI env p with
 |none=>([],6)
 |some i=>ifaceI env i
end Go.VC
namespace Go.VC.T07
open Go Go.VC Go.Proofs
theorem F15 {env:List IF} {de:D} (he:de=encL encIF env) (hok:envOk env) (hfit:∀ i∈env,i.fit) {p:S} {K:PV→List Ob→Prop} (h:∀ (s:S) (r:Int),(s,r)=ifaceE env p→K (.tup [.str s,.int .i64 r]) []):
  FC Tryz.prog tt 15 [] [.lst 40 de,.str p] K:=by
 refine FC.enter (G:=g15) tt_ok mixed ⟨Tryz.func15,by rfl,rfl⟩ rfl rfl rfl ?_
 intro A C L X
 have hneg:=negA X.a
 have heq:=eqA X.a
 have hlt:=ltA X.a
 have hin4:∀ k:Nat,k<5→A.inr .i64 (A.add (Int.ofNat k) 1):=by rw [X.a];exact fun k hk=>leaf_inc hk (by decide)
 unfold ifaceE at h
 cbv
 refine X.call (F32 he hok rfl fun c0 c1 c2 c3 c4 b hc hb=> ?_)
 cbv
 repeat' (first|apply And.intro|exact fun (_:FF)=>by kernel_rfl|(intro h2;cbv)|apply Or.inl)
 ·have h2:A.not b=true:=h2
  rw [hneg,hb] at h2
  refine h _ _ ?_
  rw [show findI env p=none by simpa using h2]
 have h2:A.not b=false:=h2
 rw [hneg,hb] at h2
 obtain ⟨i,hfi⟩:∃ i,findI env p=some i:=Option.isSome_iff_exists.1 (by simpa using h2)
 have hi:i.fit:=hfit i (List.mem_of_find?_eq_some hfi)
 rw [hfi] at hc h
 simp only [Option.getD_some] at hc
 clear h2 hb
 have h:∀ (s:S) (r:Int),(s,r)=ifaceI env i→K (.tup [.str s,.int .i64 r]) []:=h
 obtain ⟨E1,hE1⟩:∃ x,x=namesE i:=⟨_,rfl⟩
 obtain ⟨E2,hE2⟩:∃ x,x=diffE i:=⟨_,rfl⟩
 obtain ⟨E3,hE3⟩:∃ x,x=entriesE env i:=⟨_,rfl⟩
 obtain ⟨E4,hE4⟩:∃ x,x=notesE i:=⟨_,rfl⟩
 obtain ⟨E0,hE0⟩:∃ x,x=(([],headE i):S×Int):=⟨_,rfl⟩
 unfold ifaceI at h
 rw [← hE0,←hE1,←hE2,←hE3,←hE4] at h
 cbv
 refine X.loop (fun (k:Nat)=>⟨[(36,.int .i64 k),(35,.int .i64 5),(34,.pptr [.clos 1000033 [.agg [.lst 40 de,.str c0,.lst 51 c1,.lst 101 c2,.lst 106 c3,.lst 119 c4]],.clos 1000034 [.agg [.lst 40 de,.str c0,.lst 51 c1,.lst 101 c2,.lst 106 c3,.lst 119 c4]],.clos 1000035 [.agg [.lst 40 de,.str c0,.lst 51 c1,.lst 101 c2,.lst 106 c3,.lst 119 c4]],.clos 1000036 [.agg [.lst 40 de,.str c0,.lst 51 c1,.lst 101 c2,.lst 106 c3,.lst 119 c4]],.clos 1000037 [.agg [.lst 40 de,.str c0,.lst 51 c1,.lst 101 c2,.lst 106 c3,.lst 119 c4]]] 1000003)],[]⟩) (fun k=>k≤5∧(0<k→E0.2=0)∧(1<k→E1.2=0)∧(2<k→E2.2=0)∧(3<k→E3.2=0)∧(4<k→E4.2=0)) (fun k=>5-k) 0 ⟨Nat.zero_le _,by simp,by simp,by simp,by simp,by simp⟩ ?_ ?_
 ·(cbv;repeat' apply And.intro);all_goals try first|trivial|rfl|(rw [X.a];rfl)
 rintro k ⟨hk,w0,w1,w2,w3,w4⟩
 have hk5:k=0∨k=1∨k=2∨k=3∨k=4∨k=5:=by omega
 rcases hk5 with rfl|rfl|rfl|rfl|rfl|rfl
 ·have hlit1:A.lt (Int.ofNat 0) 5=true:=by rw [hlt];rfl
  have hlit0:A.lt (Int.ofNat 0) 5≠false:=by rw [hlit1];decide
  have hans:∀ (s:S) (r:Int),(s,r)=E0→r≠0→(s,r)=orE E0 (orE E1 (orE E2 (orE E3 (orE E4 ([],0))))):=by
   intro s r e hr
   rw [orE,if_pos (by rw [← e];exact hr),e]
  have hin:A.inr .i64 (A.add (Int.ofNat 0) 1):=hin4 0 (by decide)
  cbv
  refine ⟨fun h1=> ?_,fun h1=>absurd h1 hlit0⟩
  cbv
  refine X.call (F33 hi hc fun r0 hr=> ?_)
  have hr:(([]:S),r0)=E0:=by rw [hE0,hr]
  cbv
  repeat' (first|apply And.intro|exact fun (_:FF)=>by kernel_rfl|(intro h2;cbv)|apply Or.inl)
  any_goals exact hin
  ·have h2:A.not (A.eq r0 0)=true:=by assumption
   rw [hneg,heq] at h2
   exact h _ _ (hans _ _ hr (by simpa using h2))
  ·have h2:A.not (A.eq r0 0)=false:=by assumption
   rw [hneg,heq] at h2
   have hz:E0.2=0:=by rw [← hr];simpa using h2
   refine ⟨1,⟨by decide,fun _=>hz,fun h=>absurd h (by decide),fun h=>absurd h (by decide),fun h=>absurd h (by decide),fun h=>absurd h (by decide)⟩,by decide,?_⟩
   (cbv;repeat' apply And.intro);all_goals try first|trivial|rfl|(rw [X.a];rfl)
 ·have hlit1:A.lt (Int.ofNat 1) 5=true:=by rw [hlt];rfl
  have hlit0:A.lt (Int.ofNat 1) 5≠false:=by rw [hlit1];decide
  have hans:∀ (s:S) (r:Int),(s,r)=E1→r≠0→(s,r)=orE E0 (orE E1 (orE E2 (orE E3 (orE E4 ([],0))))):=by
   intro s r e hr
   rw [orE,if_neg (by rw [w0 (by decide)];decide)];rw [orE,if_pos (by rw [← e];exact hr),e]
  have hin:A.inr .i64 (A.add (Int.ofNat 1) 1):=hin4 1 (by decide)
  cbv
  refine ⟨fun h1=> ?_,fun h1=>absurd h1 hlit0⟩
  cbv
  refine X.call (F34 hi hc fun s0 r0 hr=> ?_)
  have hr:(s0,r0)=E1:=by rw [hE1,hr]
  cbv
  repeat' (first|apply And.intro|exact fun (_:FF)=>by kernel_rfl|(intro h2;cbv)|apply Or.inl)
  any_goals exact hin
  ·have h2:A.not (A.eq r0 0)=true:=by assumption
   rw [hneg,heq] at h2
   exact h _ _ (hans _ _ hr (by simpa using h2))
  ·have h2:A.not (A.eq r0 0)=false:=by assumption
   rw [hneg,heq] at h2
   have hz:E1.2=0:=by rw [← hr];simpa using h2
   refine ⟨2,⟨by decide,fun _=>w0 (by decide),fun _=>hz,fun h=>absurd h (by decide),fun h=>absurd h (by decide),fun h=>absurd h (by decide)⟩,by decide,?_⟩
   (cbv;repeat' apply And.intro);all_goals try first|trivial|rfl|(rw [X.a];rfl)
 ·have hlit1:A.lt (Int.ofNat 2) 5=true:=by rw [hlt];rfl
  have hlit0:A.lt (Int.ofNat 2) 5≠false:=by rw [hlit1];decide
  have hans:∀ (s:S) (r:Int),(s,r)=E2→r≠0→(s,r)=orE E0 (orE E1 (orE E2 (orE E3 (orE E4 ([],0))))):=by
   intro s r e hr
   rw [orE,if_neg (by rw [w0 (by decide)];decide)];rw [orE,if_neg (by rw [w1 (by decide)];decide)];rw [orE,if_pos (by rw [← e];exact hr),e]
  have hin:A.inr .i64 (A.add (Int.ofNat 2) 1):=hin4 2 (by decide)
  cbv
  refine ⟨fun h1=> ?_,fun h1=>absurd h1 hlit0⟩
  cbv
  refine X.call (F35 hi hc fun s0 r0 hr=> ?_)
  have hr:(s0,r0)=E2:=by rw [hE2,hr]
  cbv
  repeat' (first|apply And.intro|exact fun (_:FF)=>by kernel_rfl|(intro h2;cbv)|apply Or.inl)
  any_goals exact hin
  ·have h2:A.not (A.eq r0 0)=true:=by assumption
   rw [hneg,heq] at h2
   exact h _ _ (hans _ _ hr (by simpa using h2))
  ·have h2:A.not (A.eq r0 0)=false:=by assumption
   rw [hneg,heq] at h2
   have hz:E2.2=0:=by rw [← hr];simpa using h2
   refine ⟨3,⟨by decide,fun _=>w0 (by decide),fun _=>w1 (by decide),fun _=>hz,fun h=>absurd h (by decide),fun h=>absurd h (by decide)⟩,by decide,?_⟩
   (cbv;repeat' apply And.intro);all_goals try first|trivial|rfl|(rw [X.a];rfl)
 ·have hlit1:A.lt (Int.ofNat 3) 5=true:=by rw [hlt];rfl
  have hlit0:A.lt (Int.ofNat 3) 5≠false:=by rw [hlit1];decide
  have hans:∀ (s:S) (r:Int),(s,r)=E3→r≠0→(s,r)=orE E0 (orE E1 (orE E2 (orE E3 (orE E4 ([],0))))):=by
   intro s r e hr
   rw [orE,if_neg (by rw [w0 (by decide)];decide)];rw [orE,if_neg (by rw [w1 (by decide)];decide)];rw [orE,if_neg (by rw [w2 (by decide)];decide)];rw [orE,if_pos (by rw [← e];exact hr),e]
  have hin:A.inr .i64 (A.add (Int.ofNat 3) 1):=hin4 3 (by decide)
  cbv
  refine ⟨fun h1=> ?_,fun h1=>absurd h1 hlit0⟩
  cbv
  refine X.call (F36 he hok hi hc fun s0 r0 hr=> ?_)
  have hr:(s0,r0)=E3:=by rw [hE3,hr]
  cbv
  repeat' (first|apply And.intro|exact fun (_:FF)=>by kernel_rfl|(intro h2;cbv)|apply Or.inl)
  any_goals exact hin
  ·have h2:A.not (A.eq r0 0)=true:=by assumption
   rw [hneg,heq] at h2
   exact h _ _ (hans _ _ hr (by simpa using h2))
  ·have h2:A.not (A.eq r0 0)=false:=by assumption
   rw [hneg,heq] at h2
   have hz:E3.2=0:=by rw [← hr];simpa using h2
   refine ⟨4,⟨by decide,fun _=>w0 (by decide),fun _=>w1 (by decide),fun _=>w2 (by decide),fun _=>hz,fun h=>absurd h (by decide)⟩,by decide,?_⟩
   (cbv;repeat' apply And.intro);all_goals try first|trivial|rfl|(rw [X.a];rfl)
 ·have hlit1:A.lt (Int.ofNat 4) 5=true:=by rw [hlt];rfl
  have hlit0:A.lt (Int.ofNat 4) 5≠false:=by rw [hlit1];decide
  have hans:∀ (s:S) (r:Int),(s,r)=E4→r≠0→(s,r)=orE E0 (orE E1 (orE E2 (orE E3 (orE E4 ([],0))))):=by
   intro s r e hr
   rw [orE,if_neg (by rw [w0 (by decide)];decide)];rw [orE,if_neg (by rw [w1 (by decide)];decide)];rw [orE,if_neg (by rw [w2 (by decide)];decide)];rw [orE,if_neg (by rw [w3 (by decide)];decide)];rw [orE,if_pos (by rw [← e];exact hr),e]
  have hin:A.inr .i64 (A.add (Int.ofNat 4) 1):=hin4 4 (by decide)
  cbv
  refine ⟨fun h1=> ?_,fun h1=>absurd h1 hlit0⟩
  cbv
  refine X.call (F37 hi hc fun s0 r0 hr=> ?_)
  have hr:(s0,r0)=E4:=by rw [hE4,hr]
  cbv
  repeat' (first|apply And.intro|exact fun (_:FF)=>by kernel_rfl|(intro h2;cbv)|apply Or.inl)
  any_goals exact hin
  ·have h2:A.not (A.eq r0 0)=true:=by assumption
   rw [hneg,heq] at h2
   exact h _ _ (hans _ _ hr (by simpa using h2))
  ·have h2:A.not (A.eq r0 0)=false:=by assumption
   rw [hneg,heq] at h2
   have hz:E4.2=0:=by rw [← hr];simpa using h2
   refine ⟨5,⟨by decide,fun _=>w0 (by decide),fun _=>w1 (by decide),fun _=>w2 (by decide),fun _=>w3 (by decide),fun _=>hz⟩,by decide,?_⟩
   (cbv;repeat' apply And.intro);all_goals try first|trivial|rfl|(rw [X.a];rfl)
 ·have hlit1:A.lt (Int.ofNat 5) 5=false:=by rw [hlt];rfl
  have hlit0:A.lt (Int.ofNat 5) 5≠true:=by rw [hlit1];decide
  cbv
  refine ⟨fun h1=>absurd h1 hlit0,fun h1=> ?_⟩
  cbv
  refine h [] 0 ?_
  rw [orE,if_neg (by rw [w0 (by decide)];decide),orE,if_neg (by rw [w1 (by decide)];decide),orE,if_neg (by rw [w2 (by decide)];decide),orE,if_neg (by rw [w3 (by decide)];decide),orE,if_neg (by rw [w4 (by decide)];decide)]
end Go.VC.T07
end

section
namespace Go.VC
inductive LR (g:S→List S):S→S→Prop
 |one {a b:S}:b∈g a→LR g a b
 |more {a b c:S}:LR g a b→c∈g b→LR g a c
structure GB (g:S→List S) (T:Nat):Prop where
 sum:∀ L:List S,L.Nodup→(L.map fun s=>(g s).length).sum≤T
 all:∃ tot:List S,tot.length≤T∧∀ s e,e∈g s→e∈tot
theorem GB.one {g:S→List S} {T:Nat} (h:GB g T) (n:S):(g n).length≤T:=by
 have:=h.sum [n] (by simp)
 simpa using this
structure Srg (g:S→List S) (n:S) (L W:List S):Prop where
 nd:L.Nodup
 np:n∉L
 inL:∀ s∈L,LR g n s
 inW:∀ s∈W,LR g n s
 st:∀ e∈g n,e∈L∨e∈W
 cl:∀ s∈L,∀ e∈g s,e∈L∨e∈W
 len:W.length≤(g n).length+(L.map fun s=>(g s).length).sum
theorem Srg.start {g:S→List S} {n:S}:Srg g n [] (g n):=
 ⟨by simp,by simp,by simp,fun s hs=>.one hs,fun e he=>.inr he,by simp,by simp⟩
theorem Srg.old {g:S→List S} {n s:S} {L W:List S} (h:Srg g n L (s::W)) (hs:s∈L):Srg g n L W:=by
 refine ⟨h.nd,h.np,h.inL,fun x hx=>h.inW x (by simp [hx]),fun e he=> ?_,fun x hx e he=> ?_,by have:=h.len;simp at this;omega⟩
 ·rcases h.st e he with h1|h1
  ·exact .inl h1
  ·rcases List.mem_cons.1 h1 with rfl|h1
   ·exact .inl hs
   ·exact .inr h1
 ·rcases h.cl x hx e he with h1|h1
  ·exact .inl h1
  ·rcases List.mem_cons.1 h1 with rfl|h1
   ·exact .inl hs
   ·exact .inr h1
theorem Srg.new {g:S→List S} {n s:S} {L W:List S} (h:Srg g n L (s::W)) (hs:s∉L) (hn:s≠n):Srg g n (L++[s]) (W++g s):=by
 have hr:=h.inW s (by simp)
 refine ⟨?_,?_,?_,?_,?_,?_,?_⟩
 ·rw [List.nodup_append]
  exact ⟨h.nd,by simp,fun a ha b hb=>by simp at hb;subst hb;exact fun e=>hs (e▸ha)⟩
 ·intro hx
  rcases List.mem_append.1 hx with hx|hx
  ·exact h.np hx
  ·simp at hx;exact hn hx.symm
 ·intro x hx
  rcases List.mem_append.1 hx with hx|hx
  ·exact h.inL x hx
  ·simp at hx;subst hx;exact hr
 ·intro x hx
  rcases List.mem_append.1 hx with hx|hx
  ·exact h.inW x (by simp [hx])
  ·exact .more hr hx
 ·intro e he
  rcases h.st e he with h1|h1
  ·exact .inl (by simp [h1])
  ·rcases List.mem_cons.1 h1 with rfl|h1
   ·exact .inl (by simp)
   ·exact .inr (by simp [h1])
 ·intro x hx e he
  rcases List.mem_append.1 hx with hx|hx
  ·rcases h.cl x hx e he with h1|h1
   ·exact .inl (by simp [h1])
   ·rcases List.mem_cons.1 h1 with rfl|h1
    ·exact .inl (by simp)
    ·exact .inr (by simp [h1])
  ·simp at hx;subst hx
   exact .inr (List.mem_append_right _ he)
 ·have a:=h.len
  simp only [List.length_cons,List.length_append,List.map_append,List.sum_append,List.map_cons,List.map_nil,List.sum_cons,List.sum_nil] at*
  omega
theorem Srg.fin {g:S→List S} {n:S} {L:List S} (h:Srg g n L []):¬LR g n n:=by
 have key:∀ s,LR g n s→s∈L:=by
  intro s hr
  induction hr with
  |one hd=>rcases h.st _ hd with h1|h1;exact h1;simp at h1
  |more _ hd ih=>rcases h.cl _ ih _ hd with h1|h1;exact h1;simp at h1
 exact fun hr=>h.np (key n hr)
theorem Srg.lenL {g:S→List S} {n:S} {L W:List S} (h:Srg g n L W) {T:Nat} (hb:GB g T):L.length≤T:=by
 obtain ⟨tot,h1,h2⟩:=hb.all
 refine Nat.le_trans (nodup_sub_len h.nd fun s hs=> ?_) h1
 have hr:=h.inL s hs
 cases hr with
 |one h=>exact h2 _ _ h
 |more _ h=>exact h2 _ _ h
theorem Srg.lenW {g:S→List S} {n:S} {L W:List S} (h:Srg g n L W) {T:Nat} (hb:GB g T):W.length≤2*T:=by
 have a:=h.len
 have b:=hb.sum L h.nd
 have c:=hb.one n
 omega
structure MM (mm:List (S×D)) (g:S→List S):Prop where
 get:∀ s q,lookV mm s=some q→q=encL encS (g s)
 no:∀ s,lookV mm s=none→g s=[]
end Go.VC
namespace Go.VC.T07
open Go Go.VC Go.Proofs
def g78a:Cfg:={tt:=tt,n:=8,own:=[2,5]}
theorem F78 {l:List S} {d:D} {K:PV→List Ob→Prop} (hd:d=encL encS l) (hl:l.length<4294967296)
  (h:∀ r,r=encL encS l→K (.row 9 0) [.row 9 r true]):
  FC Tryz.prog tt 78 [] [.lst 9 d] K:=by
 refine FC.enterOwn (G:=g78a) tt_ok mixed ⟨Tryz.func78,by rfl,rfl⟩ rfl rfl rfl ?_
 intro A C L X
 obtain ⟨n_d,hn_d,hlen_d⟩:=lenOf hd
 cbv
 intro b hb
 cbv
 repeat' (first|apply And.intro|exact fun (_:FF)=>by kernel_rfl|(intro h2;cbv)|apply Or.inl)
 ·refine h _ ?_
  obtain rfl:=X.a
  have hb:=hb h2
  rw [Std_same,hlen_d,hn_d] at hb
  have:l=[]:=List.eq_nil_of_length_eq_zero (by simp only [Int.ofNat_eq_natCast] at hb;omega)
  rw [this];rfl
 ·obtain rfl:=X.a;simp only [SD,bNot,hlen_d];omega
 ·refine h _ ?_
  obtain rfl:=X.a
  rw [hd]
  exact Std_app (l:=[])
def g39a:Cfg:={tt:=tt,n:=37,own:=[17]}
theorem F39 {mm:List (S×D)} {g:S→List S} (hm:MM mm g) {T:Nat} (hb:GB g T) (hT:T≤268435456) {dM:D} (hdM:dM=encL (encKV enc1) mm) {n:S} {K:PV→List Ob→Prop}
  (h:∀ b,(b=true↔LR g n n)→K (.bool b) []):
  FC Tryz.prog tt 39 [] [.dmp 24 dM,.str n] K:=by
 refine FC.enterOwn (G:=g39a) tt_ok mixed ⟨Tryz.func39,by rfl,rfl⟩ rfl rfl rfl ?_
 intro A C L X
 have hneg:=negA X.a
 have hsq:=sqA X.a
 have hgp:∀ p,A.mhas dM (.str p)=true→A.mget dM (.str p) 0=encL encS (g p):=by
  intro p hp
  rw [X.a,hdM,Std_hasV] at hp
  obtain ⟨q,hq⟩:=Option.isSome_iff_exists.1 hp
  rw [X.a,hdM,Std_getV (f:=enc1) hq 0,hm.get p q hq];rfl
 have hgn:∀ p,A.mhas dM (.str p)=false→(.list []:D)=encL encS (g p):=by
  intro p hp
  rw [X.a,hdM,Std_hasV] at hp
  rw [hm.no p (by simpa using hp)];rfl
 have key:∀ dw,dw=encL encS (g n)→∀ {st:List Ob},True:=fun _ _ _=>trivial
 clear hdM hm
 cbv
 repeat' (first|apply And.intro|exact fun (_:FF)=>by kernel_rfl|(intro h2;cbv)|apply Or.inl|(refine X.call (F78 (hgp n h2) (Nat.lt_of_le_of_lt (hb.one n) (by omega)) fun r0 hr0=> ?_);cbv)|(refine X.call (F78 (hgn n h2) (Nat.lt_of_le_of_lt (hb.one n) (by omega)) fun r0 hr0=> ?_);cbv))
 all_goals (
  cbv
  refine X.loopP (fun (y:(List S×List S)×D×D×Bool)=>⟨[(6,.row 9 1),(5,.mp 0),(1,.str n),(0,.dmp 24 dM)],[.map .str 4 y.2.1,.row 9 y.2.2.1 y.2.2.2]⟩)
   (fun y=>Srg g n y.1.1 y.1.2∧y.2.2.1=encL encS y.1.2∧∃ k,y.2.1=encL encKB k∧KT k y.1.1) (fun y=>y.1.2.length+(T-y.1.1.length)*(T+1)) (([],g n),.list [],r0,true) ⟨.start,hr0,[],rfl,KT.nil⟩ ?_ ?_)
 ·refine ⟨[0,1],rfl,?_⟩
  (cbv;repeat' apply And.intro);all_goals try first|trivial|rfl|(rw [X.a];rfl)
 rotate_left
 ·refine ⟨[0,1],rfl,?_⟩
  (cbv;repeat' apply And.intro);all_goals try first|trivial|rfl|(rw [X.a];rfl)
 all_goals (
  rintro ⟨⟨Ls,W⟩,dm,dW,wr⟩ ⟨hS,hW,k,hdm,hk⟩
  simp only at hS hW hdm hk
  have hlW:=hS.lenW hb
  have hlL:=hS.lenL hb
  obtain ⟨n_dW,hn_dW,hlen_dW⟩:=lenOf hW
  cbv
  refine ⟨fun h1=> ?_,fun h1=> ?_⟩
  ·have h1':A.lt 0 (A.len dW)=true:=h1
   match W,hW,hn_dW,hS,hlW with
   |[],hW,hn_dW,hS,hlW=>exfalso;obtain rfl:=X.a;rw [hlen_dW,hn_dW] at h1';cases h1'
   |s::W,hW,hn_dW,hS,hlW=>
   have hid:A.idx 0 (A.len dW):=by rw [X.a,hW];exact leaf_idx (i:=0) (by simp)
   have ks:A.asStr (A.cell dW 0 0)=s:=strAt X.a hW (i:=0) (by simp)
   have hget:A.asBool (A.mget dm (.str (A.asStr (A.cell dW 0 0))) 0)=decide (s∈Ls):=by rw [ks,X.a,hdm];exact Std_getK hk _
   have hset:A.mset dm (.str (A.asStr (A.cell dW 0 0))) [.bool true]=encL encKB (addK k s):=by rw [ks,X.a,hdm];exact Std_addK
   have hbd1:A.bnd 1 (A.len dW):=by rw [X.a,hW,Std_len];exact ⟨by decide,by simp;omega⟩
   have hpart:A.part dW 1 (A.len dW)=encL encS W:=by rw [X.a,hW,Std_len];have:=Std_part (f:=encS) (l:=s::W) (a:=1) (b:=(s::W).length);simpa using this
   have hgs:A.mhas dM (.str (A.asStr (A.cell dW 0 0)))=true→A.mget dM (.str (A.asStr (A.cell dW 0 0))) 0=encL encS (g s):=by rw [ks];exact hgp s
   have hgz:A.mhas dM (.str (A.asStr (A.cell dW 0 0)))=false→(.list []:D)=encL encS (g s):=by rw [ks];exact hgn s
   simp only [List.length_cons] at hlW
   clear h1 h1'
   have hbn:s∉Ls→s≠n→∀ dl,dl=encL encS (g s)→A.bnd (A.add (A.len dW) (A.len dl)) 4294967296:=by
    intro hs hn dl hdl
    have hlen2:=(hS.new hs hn).lenW hb
    simp only [List.length_append] at hlen2
    rw [X.a,hW,hdl,Std_len,Std_len,Std_add];refine ⟨by simp;omega,by simp;omega⟩
   have happ:∀ dl,dl=encL encS (g s)→A.app dW dl=encL encS (s::(W++g s)):=by intro dl hdl;rw [X.a,hW,hdl];exact Std_app
   have hbd2:∀ dl,dl=encL encS (g s)→A.bnd 1 (A.len (A.app dW dl)):=by intro dl hdl;rw [happ dl hdl,X.a,Std_len];exact ⟨by decide,by simp;omega⟩
   have hpart2:∀ dl,dl=encL encS (g s)→A.part (A.app dW dl) 1 (A.len (A.app dW dl))=encL encS (W++g s):=by intro dl hdl;rw [happ dl hdl,X.a,Std_len];have:=Std_part (f:=encS) (l:=s::(W++g s)) (a:=1) (b:=(s::(W++g s)).length);rw [List.drop_one,List.tail_cons,List.take_of_length_le (by simp)] at this;exact this
   have hmes:s∉Ls→s≠n→(W++g s).length+(T-(Ls++[s]).length)*(T+1)<(s::W).length+(T-Ls.length)*(T+1):=by
    intro hs hn
    have hlL2:=(hS.new hs hn).lenL hb
    have hu1:=hb.one s
    simp only [List.length_append,List.length_singleton] at hlL2
    have:T-Ls.length=(T-(Ls.length+1))+1:=by omega
    have e2:(Ls++[s]).length=Ls.length+1:=by simp
    rw [e2,this,Nat.add_mul,Nat.one_mul,List.length_append,List.length_cons]
    omega
   have hk2:=hk.add s
   have hsn:A.seq (A.asStr (A.cell dW 0 0)) n=(s==n):=by rw [ks,hsq]
   have hnew:A.not (A.asBool (A.mget dm (.str (A.asStr (A.cell dW 0 0))) 0))=true→s∉Ls:=by
    intro e;rw [hneg,hget] at e;simpa using e
   have hsne:A.seq (A.asStr (A.cell dW 0 0)) n=false→s≠n:=by intro e;rw [hsn] at e;simpa using e
   cbv
   repeat' (first|apply And.intro|exact fun (_:FF)=>by kernel_rfl|(intro h2;cbv)|apply Or.inl)
   any_goals first|exact hid|exact hbd1
   any_goals first|exact hbn (hnew (by assumption)) (hsne (by assumption)) _ (hgs (by assumption))|exact hbn (hnew (by assumption)) (hsne (by assumption)) _ (hgz (by assumption))|exact hbd2 _ (hgs (by assumption))|exact hbd2 _ (hgz (by assumption))
   ·have e:A.seq (A.asStr (A.cell dW 0 0)) n=true:=by assumption
    rw [hsn] at e
    have e:=eq_of_beq e
    exact h true (Iff.intro (fun _=>e▸hS.inW s (by simp)) (fun _=>rfl))
   ·have e1:=hnew (by assumption)
    have e2:=hsne (by assumption)
    refine ⟨((Ls++[s],W++g s),_,_,false),⟨hS.new e1 e2,hpart2 _ (hgs (by assumption)),_,hset,hk2⟩,hmes e1 e2,[0,1],rfl,?_⟩
    (cbv;repeat' apply And.intro);all_goals try first|trivial|rfl|(rw [X.a];rfl)
   ·have e1:=hnew (by assumption)
    have e2:=hsne (by assumption)
    refine ⟨((Ls++[s],W++g s),_,_,false),⟨hS.new e1 e2,hpart2 _ (hgz (by assumption)),_,hset,hk2⟩,hmes e1 e2,[0,1],rfl,?_⟩
    (cbv;repeat' apply And.intro);all_goals try first|trivial|rfl|(rw [X.a];rfl)
   ·have e1:A.not (A.asBool (A.mget dm (.str (A.asStr (A.cell dW 0 0))) 0))=false:=by assumption
    rw [hneg,hget] at e1
    have hs:s∈Ls:=by simpa using e1
    refine ⟨((Ls,W),_,_,false),⟨hS.old hs,hpart,k,hdm,hk⟩,by simp only [List.length_cons];omega,[0,1],rfl,?_⟩
    (cbv;repeat' apply And.intro);all_goals try first|trivial|rfl|(rw [X.a];rfl)
  ·have h1':A.lt 0 (A.len dW)=false:=h1
   have hW0:W=[]:=by
    obtain rfl:=X.a
    rw [hlen_dW,Std_lt] at h1'
    have:=of_decide_eq_false h1'
    exact List.eq_nil_of_length_eq_zero (by simp only [Int.ofNat_eq_natCast] at this;omega)
   subst hW0
   have hfin:=hS.fin
   cbv
   exact h false (Iff.intro (fun e=>absurd e (by decide)) (fun e=>absurd e hfin))
 )
end Go.VC.T07
end

section
namespace Go.VC
open Classical in
noncomputable def menL (x:IF):List S:=if h:∃ l:List S,SrtS l∧∀ s,s∈l↔s∈mentS x then h.choose else []
theorem srt_uniq {l l':List S} (h:SrtS l) (h':SrtS l') (he:∀ s,s∈l↔s∈l'):l=l':=by
 have nd:∀ {l:List S},SrtS l→l.Nodup:=fun h=>List.Pairwise.imp (fun {a b} h e=>by subst e;rw [slt_irrefl] at h;cases h) h
 have hp:l.Perm l':=(List.perm_ext_iff_of_nodup (nd h) (nd h')).2 he
 have asy:∀ a b:S,slt a b=true→slt b a=true→a=b:=fun a b h1 h2=>absurd (slt_trans h1 h2) (by rw [slt_irrefl];decide)
 exact List.Perm.eq_of_pairwise (le:=fun a b=>slt a b=true) (fun a b _ _ h1 h2=>asy a b h1 h2) h h' hp
theorem menL_of {x:IF} {l:List S} (h1:SrtS l) (h2:∀ s,s∈l↔s∈mentS x):l=menL x:=by
 have hx:∃ l:List S,SrtS l∧∀ s,s∈l↔s∈mentS x:=⟨l,h1,h2⟩
 unfold menL
 rw [dif_pos hx]
 exact srt_uniq h1 hx.choose_spec.1 fun s=>(h2 s).trans (hx.choose_spec.2 s).symm
theorem menL_mem {x:IF} {s:S} (h:s∈menL x):s∈mentS x:=by
 unfold menL at h
 split at h
 ·rename_i hx;exact (hx.choose_spec.2 s).1 h
 ·simp at h
theorem menL_len (x:IF):(menL x).length≤x.wt:=by
 refine Nat.le_trans ?_ (mentL_len x)
 have nd:∀ {l:List S},SrtS l→l.Nodup:=fun h=>List.Pairwise.imp (fun {a b} h e=>by subst e;rw [slt_irrefl] at h;cases h) h
 by_cases hx:∃ l:List S,SrtS l∧∀ s,s∈l↔s∈mentS x
 ·have e:menL x=hx.choose:=by unfold menL;rw [dif_pos hx]
  refine nodup_sub_len (by rw [e];exact nd hx.choose_spec.1) fun s hs=> ?_
  exact (List.mem_filter.1 (menL_mem hs)).1
 ·unfold menL;rw [dif_neg hx];exact Nat.zero_le _
noncomputable def gOf (env:List IF) (s:S):List S:=match env.reverse.find? fun x=>x.path==s with|some x=>menL x|none=>[]
theorem gOf_snoc (env:List IF) (x:IF) (s:S):gOf (env++[x]) s=if x.path=s then menL x else gOf env s:=by
 unfold gOf
 rw [List.reverse_append,List.reverse_singleton,List.singleton_append,List.find?_cons]
 by_cases h:x.path=s
 ·have:(x.path==s)=true:=by simpa using h
  rw [this,if_pos h]
 ·have:(x.path==s)=false:=by simpa using h
  rw [this,if_neg h]
theorem sum_findG {α:Type} (key:α→S):∀ (l:List α) (f:α→Nat) (L:List S),L.Nodup→(L.map fun n=>((l.find? fun x=>key x==n).map f).getD 0).sum≤(l.map f).sum
 |[],f,L,_=>by
  have:∀ L:List S,(L.map fun n=>((([]:List α).find? fun x=>key x==n).map f).getD 0).sum=0:=by
   intro L
   induction L with
   |nil=>rfl
   |cons s L ih=>rw [List.map_cons,List.sum_cons,ih];rfl
  rw [this];exact Nat.zero_le _
 |x::l,f,L,hn=>by
  have ih:=sum_findG key l f L hn
  have key:(L.map fun n=>(((x::l).find? fun y=>key y==n).map f).getD 0).sum≤f x+(L.map fun n=>((l.find? fun y=>key y==n).map f).getD 0).sum:=by
   clear ih
   induction L with
   |nil=>simp
   |cons s L ihL=>
    rw [List.nodup_cons] at hn
    have ihL:=ihL hn.2
    simp only [List.map_cons,List.sum_cons]
    by_cases hs:key x=s
    ·have hb:(key x==s)=true:=by simpa using hs
     have hrest:∀ n∈L,(((x::l).find? fun y=>key y==n).map f).getD 0=((l.find? fun y=>key y==n).map f).getD 0:=by
      intro n hnL
      have:(key x==n)=false:=by
       rw [beq_eq_false_iff_ne];intro e;exact hn.1 (by rw [← hs,e];exact hnL)
      rw [List.find?_cons,this]
     rw [List.map_congr_left hrest,List.find?_cons,hb]
     simp only [Option.map_some,Option.getD_some]
     omega
    ·have hb:(key x==s)=false:=by simpa using hs
     rw [List.find?_cons,hb]
     simp only
     omega
  simp only [List.map_cons,List.sum_cons]
  omega
theorem gOf_GB (env:List IF):GB (gOf env) (env.map IF.wt).sum:=by
 have hrev:(env.reverse.map IF.wt).sum=(env.map IF.wt).sum:=by rw [List.map_reverse,List.sum_reverse]
 refine ⟨fun L hn=> ?_,env.flatMap mentL,flat_len fun x _=>mentL_len x,fun s e he=> ?_⟩
 ·rw [← hrev]
  refine Nat.le_trans ?_ (sum_findG IF.path env.reverse IF.wt L hn)
  have key:∀ L:List S,(L.map fun s=>(gOf env s).length).sum≤(L.map fun n=>((env.reverse.find? fun x=>x.path==n).map IF.wt).getD 0).sum:=by
   intro L
   induction L with
   |nil=>exact Nat.le_refl _
   |cons s L ih=>
    simp only [List.map_cons,List.sum_cons]
    refine Nat.add_le_add ?_ ih
    unfold gOf
    cases h:env.reverse.find? fun x=>x.path==s with
    |none=>simp
    |some x=>simpa using menL_len x
  exact key L
 ·unfold gOf at he
  cases h:env.reverse.find? fun x=>x.path==s with
  |none=>rw [h] at he;simp at he
  |some x=>
   rw [h] at he
   have hx:=List.mem_reverse.1 (List.mem_of_find?_eq_some h)
   exact List.mem_flatMap.2 ⟨x,hx,(List.mem_filter.1 (menL_mem he)).1⟩
theorem MM.put {mm:List (S×D)} {env:List IF} (h:MM mm (gOf env)) (x:IF):MM (putV x.path (encL encS (menL x)) mm) (gOf (env++[x])):=by
 refine ⟨fun s q hq=> ?_,fun s hq=> ?_⟩
 ·rw [gOf_snoc]
  rw [look_put] at hq
  by_cases e:x.path=s
  ·rw [if_pos e.symm] at hq;rw [if_pos e];exact (Option.some.inj hq).symm
  ·rw [if_neg (Ne.symm e)] at hq;rw [if_neg e];exact h.get s q hq
 ·rw [gOf_snoc]
  rw [look_put] at hq
  by_cases e:x.path=s
  ·rw [if_pos e.symm] at hq;cases hq
  ·rw [if_neg (Ne.symm e)] at hq;rw [if_neg e];exact h.no s hq
theorem MM.nil:MM [] (gOf []):=⟨fun s q hq=>absurd hq (by simp [lookV]),fun s _=>rfl⟩
noncomputable def envL (env:List IF):Option S→List IF→S×Int
 |_,[]=>([],0)
 |none,x::l=>if (ifaceE env x.path).2≠0 then (x.path,(ifaceE env x.path).2) else envL env (some x.path) l
 |some p,x::l=>if x.path=p then (x.path,5) else if slt x.path p=true then (x.path,1) else if (ifaceE env x.path).2≠0 then (x.path,(ifaceE env x.path).2) else envL env (some x.path) l
open Classical in
noncomputable def lpE (env:List IF) (x:IF):Int:=if LR (gOf env) x.path x.path then 14 else 0
noncomputable def envE (env:List IF):S×Int:=if 64<env.length then ([],7) else orE (envL env none env) (entL (lpE env) IF.path env)
end Go.VC
namespace Go.VC.T07
open Go Go.VC Go.Proofs
theorem F16 {env:List IF} {de:D} (he:de=encL encIF env) (hok:envOk env) (hfit:∀ i∈env,i.fit) (hwt:(env.map IF.wt).sum≤268435456) {K:PV→List Ob→Prop} (h:∀ (s:S) (r:Int),(s,r)=envE env→K (.tup [.str s,.int .i64 r]) []):
  FC Tryz.prog tt 16 [] [.lst 40 de] K:=by
 refine FC.enter (G:=g16) tt_ok mixed ⟨Tryz.func16,by rfl,rfl⟩ rfl rfl rfl ?_
 intro A C L X
 have hneg:=negA X.a
 have heq:=eqA X.a
 have hlt:=ltA X.a
 have hsq:=sqA X.a
 have hsl:=slA X.a
 have l1:A.len de=Int.ofNat env.length:=lenIs X.a he
 obtain ⟨n_de,hn_de,hlen_de⟩:=lenOf he
 unfold envE at h
 cbv
 repeat' (first|apply And.intro|exact fun (_:FF)=>by kernel_rfl|(intro h2;cbv)|apply Or.inl)
 ·have h2:A.lt 64 (A.len de)=true:=h2
  rw [hlt,l1] at h2
  have h3:=of_decide_eq_true h2
  simp only [Int.ofNat_eq_natCast] at h3
  exact h _ _ (by rw [if_pos (by omega)])
 have hl64:¬64<env.length:=by
  have h2:A.lt 64 (A.len de)=false:=h2
  rw [hlt,l1] at h2
  have h3:=of_decide_eq_false h2
  simp only [Int.ofNat_eq_natCast] at h3
  omega
 rw [if_neg hl64] at h
 clear h2
 obtain ⟨E0,hE0⟩:∃ x,x=envL env none env:=⟨_,rfl⟩
 obtain ⟨E1,hE1⟩:∃ x,x=entL (lpE env) IF.path env:=⟨_,rfl⟩
 rw [← hE0,←hE1] at h
 cbv
 refine X.loopP (fun (y:Nat×D)=>⟨[(17,.int .i64 y.1),(16,.int .i64 (A.len de)),(15,.lst 40 de),(4,.mp 0),(0,.lst 40 de)],[.map .str 24 y.2]⟩)
  (fun y=>y.1≤n_de∧E0=envL env (prevO (env.map IF.path) y.1) (env.drop y.1)∧∃ mm,y.2=encL (encKV enc1) mm∧MM mm (gOf (env.take y.1))) (fun y=>n_de-y.1) (0,.list []) ⟨Nat.zero_le _,hE0,[],rfl,MM.nil⟩ ?_ ?_
 ·refine ⟨[0],rfl,?_⟩
  (cbv;repeat' apply And.intro);all_goals try first|trivial|rfl|(rw [X.a];rfl)
 rintro ⟨j,dM⟩ ⟨hj,hq,mm,hdM,hmm⟩
 simp only at hj hq hdM hmm
 cbv
 refine ⟨fun h1=> ?_,fun h1=> ?_⟩
 ·have h5:j<env.length:=by obtain rfl:=X.a;simp only [hlen_de,SD,bNot] at h1;omega
  have k1:=ifIsAt X.a he h5
  have k0:=k1.1
  have hid:A.idx (Int.ofNat j) (A.len de):=by rw [X.a,he];exact leaf_idx h5
  have hin:A.inr .i64 (A.add (Int.ofNat j) 1):=by rw [X.a];exact leaf_inc h5 (by omega)
  have hin1:A.lt 0 (Int.ofNat j)=true→A.inr .i64 (A.sub (Int.ofNat j) 1):=by
   intro h;rw [hlt] at h;have h:=of_decide_eq_true h;rw [X.a];simp only [SD,bNot] at *;omega
  have hid1:A.lt 0 (Int.ofNat j)=true→A.idx (A.sub (Int.ofNat j) 1) (A.len de):=by
   intro h;rw [hlt] at h;have h:=of_decide_eq_true h;rw [X.a] at *;simp only [hlen_de,SD,bNot] at *;omega
  have hcp:A.lt 0 (Int.ofNat j)=true→∃ p,prevO (env.map IF.path) j=some p∧A.asStr (A.cell de (A.sub (Int.ofNat j) 1) 0)=p:=by
   intro h;rw [hlt] at h;have h:=of_decide_eq_true h
   simp only [Int.ofNat_eq_natCast] at h
   have hjp:j-1<env.length:=by omega
   refine ⟨env[j-1].path,?_,?_⟩
   ·rw [prevO,if_neg (by omega)];simp [List.getD,hjp]
   ·rw [show A.sub (Int.ofNat j) 1=Int.ofNat (j-1) by rw [X.a];simp only [SD,bNot];omega];exact (ifIsAt X.a he hjp).1
  have hcn:A.lt 0 (Int.ofNat j)=false→prevO (env.map IF.path) j=none:=by
   intro h;rw [hlt] at h;have h:=of_decide_eq_false h
   simp only [Int.ofNat_eq_natCast] at h
   rw [prevO,if_pos (by omega)]
  have hpr:prevO (env.map IF.path) (j+1)=some env[j].path:=by rw [prevO,if_neg (by omega)];simp [List.getD,h5]
  have hxw:env[j].wt≤4294967295:=Nat.le_trans (wt_mem (List.getElem_mem h5)) (Nat.le_trans hwt (by decide))
  have hput:∀ l r,r=encL encS l→l=menL env[j]→A.mset dM (.str (A.asStr (A.cell de (Int.ofNat j) 0))) [r]=encL (encKV enc1) (putV env[j].path (encL encS (menL env[j])) mm):=by
   intro l r hr hl;rw [k0,X.a,hdM,hr,hl];exact Std_putV (f:=enc1)
  have htk:env.take (j+1)=env.take j++[env[j]]:=take_succ' h5
  rw [List.drop_eq_getElem_cons h5] at hq
  cases hz:A.lt 0 (Int.ofNat j) with
  |true=>
   obtain ⟨p,hp1,hp2⟩:=hcp hz
   rw [hp1,envL] at hq
   cbv
   repeat' (first|apply And.intro|exact fun (_:FF)=>by kernel_rfl|(intro h2;first|exact absurd ((hz).symm.trans h2) (by decide)|cbv)|apply Or.inl|(refine X.call (F15 he hok hfit fun s1 r1 hr1=> ?_);cbv))
   any_goals first|exact hid|exact hin|exact hin1 hz|exact hid1 hz
   ·have h3:A.seq (A.asStr (A.cell de (Int.ofNat j) 0)) (A.asStr (A.cell de (A.sub (Int.ofNat j) 1) 0))=true:=by assumption
    rw [k0,hp2,hsq] at h3
    rw [if_pos (by simpa using h3)] at hq
    refine h _ 5 ?_
    rw [hq,orE,if_pos (show (5:Int)≠0 by decide)];exact Prod.ext k0 rfl
   ·have h3:A.seq (A.asStr (A.cell de (Int.ofNat j) 0)) (A.asStr (A.cell de (A.sub (Int.ofNat j) 1) 0))=false:=by assumption
    have h4:A.slt (A.asStr (A.cell de (Int.ofNat j) 0)) (A.asStr (A.cell de (A.sub (Int.ofNat j) 1) 0))=true:=by assumption
    rw [k0,hp2,hsq] at h3
    rw [k0,hp2,hsl] at h4
    rw [if_neg (by simpa using h3),if_pos h4] at hq
    refine h _ 1 ?_
    rw [hq,orE,if_pos (show (1:Int)≠0 by decide)];exact Prod.ext k0 rfl
   ·have h3:A.seq (A.asStr (A.cell de (Int.ofNat j) 0)) (A.asStr (A.cell de (A.sub (Int.ofNat j) 1) 0))=false:=by assumption
    have h4:A.slt (A.asStr (A.cell de (Int.ofNat j) 0)) (A.asStr (A.cell de (A.sub (Int.ofNat j) 1) 0))=false:=by assumption
    have h2:A.not (A.eq r1 0)=true:=by assumption
    have hr1:(s1,r1)=ifaceE env env[j].path:=by rw [← k0];exact hr1
    rw [k0,hp2,hsq] at h3
    rw [k0,hp2,hsl] at h4
    rw [hneg,heq] at h2
    rw [if_neg (by simpa using h3),if_neg (by rw [h4];decide),←hr1,if_pos (by simpa using h2)] at hq
    refine h _ r1 ?_
    rw [hq,orE,if_pos (show r1≠0 by simpa using h2)];exact Prod.ext k0 rfl
   ·have h3:A.seq (A.asStr (A.cell de (Int.ofNat j) 0)) (A.asStr (A.cell de (A.sub (Int.ofNat j) 1) 0))=false:=by assumption
    have h4:A.slt (A.asStr (A.cell de (Int.ofNat j) 0)) (A.asStr (A.cell de (A.sub (Int.ofNat j) 1) 0))=false:=by assumption
    have h2:A.not (A.eq r1 0)=false:=by assumption
    have hr1:(s1,r1)=ifaceE env env[j].path:=by rw [← k0];exact hr1
    rw [k0,hp2,hsq] at h3
    rw [k0,hp2,hsl] at h4
    rw [hneg,heq] at h2
    have h6:r1=0:=by simpa using h2
    rw [if_neg (by simpa using h3),if_neg (by rw [h4];decide),←hr1,if_neg (show ¬r1≠0 from fun e=>e h6)] at hq
    refine X.call (F38 k1 (hok.2 _ (List.getElem_mem h5)) hxw fun l r hr hl1 hl2=> ?_)
    have hp:=hput l r hr (menL_of hl1 hl2)
    have hm2:MM (putV env[j].path (encL encS (menL env[j])) mm) (gOf (env.take (j+1))):=by rw [htk];exact hmm.put _
    cbv
    repeat' (first|apply And.intro|exact fun (_:FF)=>by kernel_rfl|(intro h2;cbv)|apply Or.inl)
    any_goals exact hin
    refine ⟨(j+1,_),⟨by simp only;omega,?_,_,hp,hm2⟩,by simp only;omega,[0],rfl,?_⟩
    ·rw [hpr];exact hq
    (cbv;repeat' apply And.intro);all_goals try first|trivial|rfl|(rw [X.a];rfl)
  |false=>
   rw [hcn hz,envL] at hq
   cbv
   repeat' (first|apply And.intro|exact fun (_:FF)=>by kernel_rfl|(intro h2;first|exact absurd ((hz).symm.trans h2) (by decide)|cbv)|apply Or.inl|(refine X.call (F15 he hok hfit fun s1 r1 hr1=> ?_);cbv))
   any_goals first|exact hid|exact hin
   ·have h2:A.not (A.eq r1 0)=true:=by assumption
    have hr1:(s1,r1)=ifaceE env env[j].path:=by rw [← k0];exact hr1
    rw [hneg,heq] at h2
    rw [← hr1,if_pos (by simpa using h2)] at hq
    refine h _ r1 ?_
    rw [hq,orE,if_pos (show r1≠0 by simpa using h2)];exact Prod.ext k0 rfl
   ·have h2:A.not (A.eq r1 0)=false:=by assumption
    have hr1:(s1,r1)=ifaceE env env[j].path:=by rw [← k0];exact hr1
    rw [hneg,heq] at h2
    have h6:r1=0:=by simpa using h2
    rw [← hr1,if_neg (show ¬r1≠0 from fun e=>e h6)] at hq
    refine X.call (F38 k1 (hok.2 _ (List.getElem_mem h5)) hxw fun l r hr hl1 hl2=> ?_)
    have hp:=hput l r hr (menL_of hl1 hl2)
    have hm2:MM (putV env[j].path (encL encS (menL env[j])) mm) (gOf (env.take (j+1))):=by rw [htk];exact hmm.put _
    cbv
    repeat' (first|apply And.intro|exact fun (_:FF)=>by kernel_rfl|(intro h2;cbv)|apply Or.inl)
    any_goals exact hin
    refine ⟨(j+1,_),⟨by simp only;omega,?_,_,hp,hm2⟩,by simp only;omega,[0],rfl,?_⟩
    ·rw [hpr];exact hq
    (cbv;repeat' apply And.intro);all_goals try first|trivial|rfl|(rw [X.a];rfl)
 ·have h5:j=n_de:=by obtain rfl:=X.a;simp only [hlen_de,SD,bNot] at h1;omega
  have z0:E0=([],0):=by rw [hq,h5,hn_de,List.drop_length];unfold envL;cases prevO (env.map IF.path) env.length<;>rfl
  rw [h5,hn_de,List.take_length] at hmm
  cbv
  refine X.loopK (fun (y:Nat)=>⟨[(74,.int .i64 y),(73,.int .i64 (A.len de)),(72,.lst 40 de),(4,.dmp 24 dM)],[]⟩)
   (fun y=>y≤n_de∧E1=entL (lpE env) IF.path (env.drop y)) (fun y=>n_de-y) 0 ⟨Nat.zero_le _,hE1⟩ ?_ ?_
  ·refine ⟨[0],[],[],rfl,?_⟩
   (cbv;repeat' apply And.intro);all_goals try first|trivial|rfl|(rw [X.a];rfl)
  rintro q ⟨hj2,hq2⟩
  cbv
  refine ⟨fun h1=> ?_,fun h1=> ?_⟩
  ·have h5:q<env.length:=by obtain rfl:=X.a;simp only [hlen_de,SD,bNot] at h1;omega
   have k1:=ifIsAt X.a he h5
   have k0:=k1.1
   have hid:A.idx (Int.ofNat q) (A.len de):=by rw [X.a,he];exact leaf_idx h5
   have hin:A.inr .i64 (A.add (Int.ofNat q) 1):=by rw [X.a];exact leaf_inc h5 (by omega)
   rw [List.drop_eq_getElem_cons h5,entL] at hq2
   cbv
   repeat' (first|apply And.intro|exact fun (_:FF)=>by kernel_rfl|(intro h2;cbv)|apply Or.inl)
   any_goals exact hid
   refine X.call (F39 hmm (gOf_GB env) hwt hdM fun b hb=> ?_)
   cbv
   repeat' (first|apply And.intro|exact fun (_:FF)=>by kernel_rfl|(intro h2;cbv)|apply Or.inl)
   any_goals exact hin
   ·have h2:b=true:=by assumption
    have hb:b=true↔LR (gOf env) env[q].path env[q].path:=by rw [← k0];exact hb
    have e14:lpE env env[q]=14:=by unfold lpE;rw [if_pos (hb.1 h2)]
    rw [e14,if_pos (by decide)] at hq2
    refine h _ 14 ?_
    rw [z0,orE,if_neg (by decide),hq2];exact Prod.ext k0 rfl
   ·have h2:b=false:=by assumption
    have hb:b=true↔LR (gOf env) env[q].path env[q].path:=by rw [← k0];exact hb
    have e14:lpE env env[q]=0:=by unfold lpE;rw [if_neg (fun e=>by have:=hb.2 e;rw [h2] at this;cases this)]
    rw [e14,if_neg (by decide)] at hq2
    refine ⟨q+1,⟨by omega,hq2⟩,by omega,[],[],[],rfl,?_⟩
    (cbv;repeat' apply And.intro);all_goals try first|trivial|rfl|(rw [X.a];rfl)
  ·have h5:q=n_de:=by obtain rfl:=X.a;simp only [hlen_de,SD,bNot] at h1;omega
   cbv
   refine h [] 0 ?_
   rw [z0,hq2,h5,hn_de,List.drop_length];rfl
end Go.VC.T07
end

section
namespace Go.VC
section
variable {α:Type} {f:α→List D} {l:List α} {i:Nat} {y:α} {ys:List D} {A:Alg} {d:D}
theorem app1 (ha:A=Std) (hd:d=encL f l):A.app (A.lit []) (A.part d 0 (Int.ofNat i))=encL f (l.take i):=by
 rw [ha,hd,Std_partI,show Std.lit []=encL f [] from rfl,Std_app];simp
theorem app2 (ha:A=Std) (hd:d=encL f l) (hy:ys=f y):A.app (A.app (A.lit []) (A.part d 0 (Int.ofNat i))) (A.lit [ys])=encL f (l.take i++[y]):=by
 rw [app1 ha hd,ha,hy];exact Std_app (k:=[y])
theorem app3 (ha:A=Std) (hd:d=encL f l) (hy:ys=f y):A.app (A.app (A.app (A.lit []) (A.part d 0 (Int.ofNat i))) (A.lit [ys])) (A.part d (Int.ofNat i) (A.len d))=encL f (l.take i++y::l.drop i):=by
 rw [app2 ha hd hy,ha,hd,Std_partI,Std_app,Std_len];simp [List.take_of_length_le]
theorem bnd1 (ha:A=Std) (hd:d=encL f l) (hl:l.length≤4294967290):A.bnd (A.add (A.len (A.lit [])) (A.len (A.part d 0 (Int.ofNat i)))) 4294967296:=by
 rw [ha,hd,Std_partI,Std_len,show Std.lit []=encL f [] from rfl,Std_len]
 exact ⟨by simp [Std,std],by simp [Std,std];omega⟩
theorem bnd2 (ha:A=Std) (hd:d=encL f l) (hl:l.length≤4294967290):A.bnd (A.add (A.len (A.app (A.lit []) (A.part d 0 (Int.ofNat i)))) (A.len (A.lit [ys]))) 4294967296:=by
 rw [app1 ha hd,ha,Std_len,Std_len_lit]
 exact ⟨by simp [Std,std];omega,by simp [Std,std];omega⟩
theorem bnd3 (ha:A=Std) (hd:d=encL f l) (hi:i≤l.length) (hl:l.length≤4294967290) (hy:ys=f y):A.bnd (A.add (A.len (A.app (A.app (A.lit []) (A.part d 0 (Int.ofNat i))) (A.lit [ys]))) (A.len (A.part d (Int.ofNat i) (A.len d)))) 4294967296:=by
 rw [app2 ha hd hy,ha,hd,Std_partI,Std_len,Std_len,Std_len]
 exact ⟨by simp [Std,std];omega,by simp [Std,std];omega⟩
end
end Go.VC
namespace Go.VC.T07
open Go Go.VC Go.Proofs
end Go.VC.T07
end

section
namespace Go.VC
end Go.VC
namespace Go.VC.T07
open Go Go.VC Go.Proofs
end Go.VC.T07
end

section
namespace Go.VC
end Go.VC
namespace Go.VC.T07
open Go Go.VC Go.Proofs
end Go.VC.T07
end

section
namespace Go.VC
theorem sum_map_take_le {α:Type} {f:α→Nat} {l:List α} {i:Nat}:((l.take i).map f).sum≤(l.map f).sum:=by
 rw [List.map_take];exact sum_take_le
end Go.VC
namespace Go.VC.T07
open Go Go.VC Go.Proofs
end Go.VC.T07
end

section
namespace Go.VC
def teTys (e:TE):List Ty:=[e.lower,e.upper]++e.params.map (·.bound)
def veTys (e:VE):List Ty:=[e.ty]++e.params.map (·.bound)
def typesL (x:IF):List Ty:=x.types.flatMap teTys++x.values.flatMap veTys
theorem flat_take_len {α β:Type} {f:α→List β} {l:List α} {i:Nat} (h:i<l.length):((l.take i).flatMap f).length+(f l[i]).length≤(l.flatMap f).length:=by
 have e:l.flatMap f=(l.take (i+1)).flatMap f++(l.drop (i+1)).flatMap f:=by rw [← List.flatMap_append,List.take_append_drop]
 rw [e,flat_take h,List.length_append,List.length_append];omega
end Go.VC
namespace Go.VC.T07
open Go Go.VC Go.Proofs
def g25a:Cfg:={tt:=tt,n:=96,sch:=g25.sch,own:=[8]}
theorem F25 {x:IF} {c0:S} {c1 c2 c3 c4:D} {K:PV→List Ob→Prop} (hx:ifIs x c0 c1 c2 c3 c4) (hok:x.ok) (hw:(typesL x).length≤4294967290)
  (h:∀ r,r=encL encTy (typesL x)→K (.lst 28 r) []):FC Tryz.prog tt 25 [] [ifPV c0 c1 c2 c3 c4] K:=by
 obtain ⟨x0,hc1,hc2,hc3,hc4⟩:=hx
 have nt:=hok.nt
 have nv:=hok.nv
 have htl:(typesL x).length=(x.types.flatMap teTys).length+(x.values.flatMap veTys).length:=by unfold typesL;rw [List.length_append]
 refine FC.enter (G:=g25a) tt_ok mixed ⟨Tryz.func25,by rfl,rfl⟩ rfl rfl rfl ?_
 intro A C L X
 obtain ⟨n_c1,hn_c1,hlen_c1⟩:=lenOf hc1
 obtain ⟨n_c2,hn_c2,hlen_c2⟩:=lenOf hc2
 cbv
 refine X.loopP (fun (y:Nat×D)=>⟨[(4,.int .i64 y.1),(3,.row 28 1),(1,.box 0 0)],[.box [.str c0,.lst 51 c1,.lst 101 c2,.lst 106 c3,.lst 119 c4],.row 28 y.2 true]⟩)
  (fun y=>y.1≤n_c1∧y.2=encL encTy ((x.types.take y.1).flatMap teTys)) (fun y=>n_c1-y.1) (0,A.lit []) ⟨Nat.zero_le _,by rw [X.a];rfl⟩ ?_ ?_
 ·refine ⟨[0,1],rfl,?_⟩
  (cbv;repeat' apply And.intro);all_goals try first|trivial|rfl|(rw [X.a];rfl)
 rintro ⟨i,r⟩ ⟨hi,hr⟩
 simp only at hi hr
 cbv
 refine ⟨fun h1=> ?_,fun h1=> ?_⟩
 ·have h5:i<x.types.length:=by obtain rfl:=X.a;simp only [hlen_c1,SD,bNot] at h1;omega
  obtain ⟨k0,k1,⟨m0,m1,m2,m3,m4⟩,⟨u0,u1,u2,u3,u4⟩⟩:=teIsAt X.a hc1 h5
  have hid:A.idx (Int.ofNat i) (A.len c1):=by rw [X.a,hc1];exact leaf_idx h5
  have hin:A.inr .i64 (A.add (Int.ofNat i) 1):=by rw [X.a];exact leaf_inc h5 (by omega)
  have hfl:=flat_take_len (f:=teTys) h5
  have hft:=flat_take (f:=teTys) h5
  have htn:(teTys x.types[i]).length=2+x.types[i].params.length:=by unfold teTys;simp;omega
  have hrl:((x.types.take i).flatMap teTys).length+2+x.types[i].params.length≤4294967290:=by first|omega|(simp only [List.length_append];omega)
  have q1:A.app r (A.lit [[.int (A.asInt (A.cell c1 (Int.ofNat i) 2)),.str (A.asStr (A.cell c1 (Int.ofNat i) 3)),.str (A.asStr (A.cell c1 (Int.ofNat i) 4)),A.cell c1 (Int.ofNat i) 5,A.cell c1 (Int.ofNat i) 6],[.int (A.asInt (A.cell c1 (Int.ofNat i) 7)),.str (A.asStr (A.cell c1 (Int.ofNat i) 8)),.str (A.asStr (A.cell c1 (Int.ofNat i) 9)),A.cell c1 (Int.ofNat i) 10,A.cell c1 (Int.ofNat i) 11]])=encL encTy ((x.types.take i).flatMap teTys++[x.types[i].lower,x.types[i].upper]++(x.types[i].params.take 0).map (·.bound)):=by
   rw [m0,m1,m2,m3,m4,u0,u1,u2,u3,u4,←encTy_eq,←encTy_eq,X.a,hr]
   refine (Std_app (f:=encTy) (k:=[x.types[i].lower,x.types[i].upper])).trans ?_
   simp
  have b1:A.bnd (A.add (A.len r) (A.len (A.lit [[.int (A.asInt (A.cell c1 (Int.ofNat i) 2)),.str (A.asStr (A.cell c1 (Int.ofNat i) 3)),.str (A.asStr (A.cell c1 (Int.ofNat i) 4)),A.cell c1 (Int.ofNat i) 5,A.cell c1 (Int.ofNat i) 6],[.int (A.asInt (A.cell c1 (Int.ofNat i) 7)),.str (A.asStr (A.cell c1 (Int.ofNat i) 8)),.str (A.asStr (A.cell c1 (Int.ofNat i) 9)),A.cell c1 (Int.ofNat i) 10,A.cell c1 (Int.ofNat i) 11]]))) 4294967296:=by rw [X.a,hr,Std_len,Std_len_lit];exact ⟨by rw [Std_add];omega,by rw [Std_add];simp only [List.length_cons,List.length_nil];omega⟩
  cbv
  repeat' (first|apply And.intro|exact fun (_:FF)=>by kernel_rfl|(intro h2;cbv)|apply Or.inl)
  any_goals exact hid
  any_goals exact b1
  obtain ⟨dp,hdp⟩:∃ dp,dp=A.cell c1 (Int.ofNat i) 1:=⟨_,rfl⟩
  rw [← hdp] at k1
  obtain ⟨n_dp,hn_dp,hlen_dp⟩:=lenOf k1
  refine X.loopP (fun (y:Nat×D)=>⟨[(5,.int .i64 y.1),(4,.int .i64 i),(3,.row 28 1),(1,.box 0 0)],[.box [.str c0,.lst 51 c1,.lst 101 c2,.lst 106 c3,.lst 119 c4],.row 28 y.2 true]⟩)
   (fun y=>y.1≤n_dp∧y.2=encL encTy ((x.types.take i).flatMap teTys++[x.types[i].lower,x.types[i].upper]++(x.types[i].params.take y.1).map (·.bound))) (fun y=>n_dp-y.1) (0,_) ⟨Nat.zero_le _,q1⟩ ?_ ?_
  ·refine ⟨[0,1],rfl,?_⟩
   (cbv;repeat' apply And.intro);all_goals try first|trivial|rfl|(rw [X.a];rfl)
  rintro ⟨j,r2⟩ ⟨hj,hr2⟩
  simp only at hj hr2
  have hlj:A.len (A.cell c1 (Int.ofNat i) 1)=Int.ofNat n_dp:=by rw [← hdp,X.a];exact hlen_dp
  cbv
  refine ⟨hid,?_⟩
  refine ⟨fun h1=> ?_,fun h1=> ?_⟩
  ·have h6:j<x.types[i].params.length:=by
    have h1:A.lt (Int.ofNat j) (A.len (A.cell c1 (Int.ofNat i) 1))=true:=h1
    rw [hlj] at h1;obtain rfl:=X.a;simp only [SD,bNot] at h1;omega
   obtain ⟨w0,w1,w2,w3,w4,w5,w6⟩:=pmIsAt X.a k1 h6
   rw [hdp] at w2 w3 w4 w5 w6
   have hid2:A.idx (Int.ofNat j) (A.len (A.cell c1 (Int.ofNat i) 1)):=by rw [← hdp,X.a,k1];exact leaf_idx h6
   have hin2:A.inr .i64 (A.add (Int.ofNat j) 1):=by rw [X.a];exact leaf_inc h6 (by omega)
   have hcur:((x.types.take i).flatMap teTys++[x.types[i].lower,x.types[i].upper]++(x.types[i].params.take j).map (·.bound)).length≤4294967290:=by simp only [List.length_append,List.length_map,List.length_take,List.length_cons,List.length_nil] at hrl ⊢;omega
   have q2:A.app r2 (A.lit [[.int (A.asInt (A.cell (A.cell c1 (Int.ofNat i) 1) (Int.ofNat j) 2)),.str (A.asStr (A.cell (A.cell c1 (Int.ofNat i) 1) (Int.ofNat j) 3)),.str (A.asStr (A.cell (A.cell c1 (Int.ofNat i) 1) (Int.ofNat j) 4)),(A.cell (A.cell c1 (Int.ofNat i) 1) (Int.ofNat j) 5),(A.cell (A.cell c1 (Int.ofNat i) 1) (Int.ofNat j) 6)]])=encL encTy ((x.types.take i).flatMap teTys++[x.types[i].lower,x.types[i].upper]++(x.types[i].params.take (j+1)).map (·.bound)):=by
    rw [w2,w3,w4,w5,w6,X.a,hr2,map_take h6,←List.append_assoc,←encTy_eq]
    exact Std_app (k:=[x.types[i].params[j].bound])
   have b2:A.bnd (A.add (A.len r2) (A.len (A.lit [[.int (A.asInt (A.cell (A.cell c1 (Int.ofNat i) 1) (Int.ofNat j) 2)),.str (A.asStr (A.cell (A.cell c1 (Int.ofNat i) 1) (Int.ofNat j) 3)),.str (A.asStr (A.cell (A.cell c1 (Int.ofNat i) 1) (Int.ofNat j) 4)),(A.cell (A.cell c1 (Int.ofNat i) 1) (Int.ofNat j) 5),(A.cell (A.cell c1 (Int.ofNat i) 1) (Int.ofNat j) 6)]]))) 4294967296:=by rw [X.a,hr2,Std_len,Std_len_lit];exact ⟨by rw [Std_add];omega,by rw [Std_add];simp only [List.length_cons,List.length_nil];omega⟩
   cbv
   repeat' (first|apply And.intro|exact fun (_:FF)=>by kernel_rfl|(intro h2;cbv)|apply Or.inl)
   any_goals exact hid
   any_goals exact hid2
   any_goals exact b2
   any_goals exact hin2
   refine ⟨(j+1,_),⟨?_,q2⟩,?_,[0,1],rfl,?_⟩
   ·simp only;omega
   ·simp only;omega
   (cbv;repeat' apply And.intro);all_goals try first|trivial|rfl|(rw [X.a];rfl)
  ·have h6:j=n_dp:=by
    have h1:A.lt (Int.ofNat j) (A.len (A.cell c1 (Int.ofNat i) 1))=false:=h1
    rw [hlj] at h1;obtain rfl:=X.a;simp only [SD,bNot] at h1;omega
   rw [h6,hn_dp,List.take_length] at hr2
   have q3:r2=encL encTy ((x.types.take (i+1)).flatMap teTys):=by rw [hr2,hft];unfold teTys;simp only [List.append_assoc]
   cbv
   repeat' (first|apply And.intro|exact fun (_:FF)=>by kernel_rfl|(intro h2;cbv)|apply Or.inl)
   any_goals exact hin
   refine ⟨(i+1,r2),⟨?_,q3⟩,?_,[0,1],rfl,?_⟩
   ·simp only;omega
   ·simp only;omega
   (cbv;repeat' apply And.intro);all_goals try first|trivial|rfl|(rw [X.a];rfl)
 have h5:i=n_c1:=by obtain rfl:=X.a;simp only [hlen_c1,SD,bNot] at h1;omega
 rw [h5,hn_c1,List.take_length] at hr
 clear h1 hi
 cbv
 refine X.loopP (fun (y:Nat×D)=>⟨[(6,.int .i64 y.1),(3,.row 28 1),(1,.box 0 0)],[.box [.str c0,.lst 51 c1,.lst 101 c2,.lst 106 c3,.lst 119 c4],.row 28 y.2 true]⟩)
  (fun y=>y.1≤n_c2∧y.2=encL encTy (x.types.flatMap teTys++(x.values.take y.1).flatMap veTys)) (fun y=>n_c2-y.1) (0,r) ⟨Nat.zero_le _,by simpa using hr⟩ ?_ ?_
 ·refine ⟨[0,1],rfl,?_⟩
  (cbv;repeat' apply And.intro);all_goals try first|trivial|rfl|(rw [X.a];rfl)
 rintro ⟨i,r⟩ ⟨hi,hr⟩
 simp only at hi hr
 cbv
 refine ⟨fun h1=> ?_,fun h1=> ?_⟩
 ·have h5:i<x.values.length:=by obtain rfl:=X.a;simp only [hlen_c2,SD,bNot] at h1;omega
  obtain ⟨k0,k1,⟨m0,m1,m2,m3,m4⟩⟩:=veIsAt X.a hc2 h5
  have hid:A.idx (Int.ofNat i) (A.len c2):=by rw [X.a,hc2];exact leaf_idx h5
  have hin:A.inr .i64 (A.add (Int.ofNat i) 1):=by rw [X.a];exact leaf_inc h5 (by omega)
  have hfl:=flat_take_len (f:=veTys) h5
  have hft:=flat_take (f:=veTys) h5
  have htn:(veTys x.values[i]).length=1+x.values[i].params.length:=by unfold veTys;simp;omega
  have hrl:(x.types.flatMap teTys++(x.values.take i).flatMap veTys).length+1+x.values[i].params.length≤4294967290:=by first|omega|(simp only [List.length_append];omega)
  have q1:A.app r (A.lit [[.int (A.asInt (A.cell c2 (Int.ofNat i) 2)),.str (A.asStr (A.cell c2 (Int.ofNat i) 3)),.str (A.asStr (A.cell c2 (Int.ofNat i) 4)),A.cell c2 (Int.ofNat i) 5,A.cell c2 (Int.ofNat i) 6]])=encL encTy (x.types.flatMap teTys++(x.values.take i).flatMap veTys++[x.values[i].ty]++(x.values[i].params.take 0).map (·.bound)):=by
   rw [m0,m1,m2,m3,m4,←encTy_eq,X.a,hr]
   refine (Std_app (f:=encTy) (k:=[x.values[i].ty])).trans ?_
   simp
  have b1:A.bnd (A.add (A.len r) (A.len (A.lit [[.int (A.asInt (A.cell c2 (Int.ofNat i) 2)),.str (A.asStr (A.cell c2 (Int.ofNat i) 3)),.str (A.asStr (A.cell c2 (Int.ofNat i) 4)),A.cell c2 (Int.ofNat i) 5,A.cell c2 (Int.ofNat i) 6]]))) 4294967296:=by rw [X.a,hr,Std_len,Std_len_lit];exact ⟨by rw [Std_add];omega,by rw [Std_add];simp only [List.length_cons,List.length_nil];omega⟩
  cbv
  repeat' (first|apply And.intro|exact fun (_:FF)=>by kernel_rfl|(intro h2;cbv)|apply Or.inl)
  any_goals exact hid
  any_goals exact b1
  obtain ⟨dp,hdp⟩:∃ dp,dp=A.cell c2 (Int.ofNat i) 1:=⟨_,rfl⟩
  rw [← hdp] at k1
  obtain ⟨n_dp,hn_dp,hlen_dp⟩:=lenOf k1
  refine X.loopP (fun (y:Nat×D)=>⟨[(7,.int .i64 y.1),(6,.int .i64 i),(3,.row 28 1),(1,.box 0 0)],[.box [.str c0,.lst 51 c1,.lst 101 c2,.lst 106 c3,.lst 119 c4],.row 28 y.2 true]⟩)
   (fun y=>y.1≤n_dp∧y.2=encL encTy (x.types.flatMap teTys++(x.values.take i).flatMap veTys++[x.values[i].ty]++(x.values[i].params.take y.1).map (·.bound))) (fun y=>n_dp-y.1) (0,_) ⟨Nat.zero_le _,q1⟩ ?_ ?_
  ·refine ⟨[0,1],rfl,?_⟩
   (cbv;repeat' apply And.intro);all_goals try first|trivial|rfl|(rw [X.a];rfl)
  rintro ⟨j,r2⟩ ⟨hj,hr2⟩
  simp only at hj hr2
  have hlj:A.len (A.cell c2 (Int.ofNat i) 1)=Int.ofNat n_dp:=by rw [← hdp,X.a];exact hlen_dp
  cbv
  refine ⟨hid,?_⟩
  refine ⟨fun h1=> ?_,fun h1=> ?_⟩
  ·have h6:j<x.values[i].params.length:=by
    have h1:A.lt (Int.ofNat j) (A.len (A.cell c2 (Int.ofNat i) 1))=true:=h1
    rw [hlj] at h1;obtain rfl:=X.a;simp only [SD,bNot] at h1;omega
   obtain ⟨w0,w1,w2,w3,w4,w5,w6⟩:=pmIsAt X.a k1 h6
   rw [hdp] at w2 w3 w4 w5 w6
   have hid2:A.idx (Int.ofNat j) (A.len (A.cell c2 (Int.ofNat i) 1)):=by rw [← hdp,X.a,k1];exact leaf_idx h6
   have hin2:A.inr .i64 (A.add (Int.ofNat j) 1):=by rw [X.a];exact leaf_inc h6 (by omega)
   have hcur:(x.types.flatMap teTys++(x.values.take i).flatMap veTys++[x.values[i].ty]++(x.values[i].params.take j).map (·.bound)).length≤4294967290:=by simp only [List.length_append,List.length_map,List.length_take,List.length_cons,List.length_nil] at hrl ⊢;omega
   have q2:A.app r2 (A.lit [[.int (A.asInt (A.cell (A.cell c2 (Int.ofNat i) 1) (Int.ofNat j) 2)),.str (A.asStr (A.cell (A.cell c2 (Int.ofNat i) 1) (Int.ofNat j) 3)),.str (A.asStr (A.cell (A.cell c2 (Int.ofNat i) 1) (Int.ofNat j) 4)),(A.cell (A.cell c2 (Int.ofNat i) 1) (Int.ofNat j) 5),(A.cell (A.cell c2 (Int.ofNat i) 1) (Int.ofNat j) 6)]])=encL encTy (x.types.flatMap teTys++(x.values.take i).flatMap veTys++[x.values[i].ty]++(x.values[i].params.take (j+1)).map (·.bound)):=by
    rw [w2,w3,w4,w5,w6,X.a,hr2,map_take h6,←List.append_assoc,←encTy_eq]
    exact Std_app (k:=[x.values[i].params[j].bound])
   have b2:A.bnd (A.add (A.len r2) (A.len (A.lit [[.int (A.asInt (A.cell (A.cell c2 (Int.ofNat i) 1) (Int.ofNat j) 2)),.str (A.asStr (A.cell (A.cell c2 (Int.ofNat i) 1) (Int.ofNat j) 3)),.str (A.asStr (A.cell (A.cell c2 (Int.ofNat i) 1) (Int.ofNat j) 4)),(A.cell (A.cell c2 (Int.ofNat i) 1) (Int.ofNat j) 5),(A.cell (A.cell c2 (Int.ofNat i) 1) (Int.ofNat j) 6)]]))) 4294967296:=by rw [X.a,hr2,Std_len,Std_len_lit];exact ⟨by rw [Std_add];omega,by rw [Std_add];simp only [List.length_cons,List.length_nil];omega⟩
   cbv
   repeat' (first|apply And.intro|exact fun (_:FF)=>by kernel_rfl|(intro h2;cbv)|apply Or.inl)
   any_goals exact hid
   any_goals exact hid2
   any_goals exact b2
   any_goals exact hin2
   refine ⟨(j+1,_),⟨?_,q2⟩,?_,[0,1],rfl,?_⟩
   ·simp only;omega
   ·simp only;omega
   (cbv;repeat' apply And.intro);all_goals try first|trivial|rfl|(rw [X.a];rfl)
  ·have h6:j=n_dp:=by
    have h1:A.lt (Int.ofNat j) (A.len (A.cell c2 (Int.ofNat i) 1))=false:=h1
    rw [hlj] at h1;obtain rfl:=X.a;simp only [SD,bNot] at h1;omega
   rw [h6,hn_dp,List.take_length] at hr2
   have q3:r2=encL encTy (x.types.flatMap teTys++(x.values.take (i+1)).flatMap veTys):=by rw [hr2,hft];unfold veTys;simp only [List.append_assoc]
   cbv
   repeat' (first|apply And.intro|exact fun (_:FF)=>by kernel_rfl|(intro h2;cbv)|apply Or.inl)
   any_goals exact hin
   refine ⟨(i+1,r2),⟨?_,q3⟩,?_,[0,1],rfl,?_⟩
   ·simp only;omega
   ·simp only;omega
   (cbv;repeat' apply And.intro);all_goals try first|trivial|rfl|(rw [X.a];rfl)
 have h5:i=n_c2:=by obtain rfl:=X.a;simp only [hlen_c2,SD,bNot] at h1;omega
 rw [h5,hn_c2,List.take_length] at hr
 clear h1 hi
 cbv
 exact h r hr
end Go.VC.T07
end

section
namespace Go.VC
theorem sum_flat {α β:Type} {f:α→List β} {g:β→Nat} {w:α→Nat}:∀ {l:List α},(∀ x∈l,((f x).map g).sum≤w x)→((l.flatMap f).map g).sum≤(l.map w).sum
 |[],_=>by simp
 |x::l,h=>by
  have a:=h x (by simp)
  have b:=sum_flat (l:=l) (f:=f) (g:=g) (w:=w) fun y hy=>h y (by simp [hy])
  simp only [List.flatMap_cons,List.map_append,List.sum_append,List.map_cons,List.sum_cons];omega
theorem bound_sum (l:List Pm):((l.map (·.bound)).map Ty.size).sum≤(l.map Pm.wt).sum:=by
 induction l with
 |nil=>simp
 |cons p l ih=>simp only [List.map_cons,List.sum_cons,Pm.wt] at ih ⊢;omega
theorem typesL_sum (x:IF):((typesL x).map Ty.size).sum+x.aliases.length≤x.wt:=by
 have a:=sum_flat (l:=x.types) (f:=teTys) (g:=Ty.size) (w:=TE.wt) fun y _=>by
  have:=bound_sum y.params
  simp only [teTys,List.map_append,List.sum_append,List.map_cons,List.map_nil,List.sum_cons,List.sum_nil,TE.wt];omega
 have b:=sum_flat (l:=x.values) (f:=veTys) (g:=Ty.size) (w:=VE.wt) fun y _=>by
  have:=bound_sum y.params
  simp only [veTys,List.map_append,List.sum_append,List.map_cons,List.map_nil,List.sum_cons,List.sum_nil,VE.wt];omega
 simp only [typesL,List.map_append,List.sum_append,IF.wt];omega
theorem ty_pos (t:Ty):1≤t.size:=by rw [size_eq];omega
theorem len_sum:∀ l:List Ty,l.length≤(l.map Ty.size).sum
 |[]=>by simp
 |t::l=>by have a:=ty_pos t;have b:=len_sum l;simp only [List.length_cons,List.map_cons,List.sum_cons];omega
theorem typesL_len (x:IF):(typesL x).length≤x.wt:=by have a:=typesL_sum x;have b:=len_sum (typesL x);omega
theorem typesL_le {x:IF} (hok:x.ok) {u:Ty} (h:u∈typesL x):Ty.le 4294967295 u:=by
 unfold typesL at h
 rcases List.mem_append.1 h with h|h
 ·obtain ⟨e,he,hu⟩:=List.mem_flatMap.1 h
  have hk:=hok.t e he
  unfold teTys at hu
  simp only [List.cons_append,List.nil_append,List.mem_cons,List.mem_map] at hu
  rcases hu with rfl|rfl|⟨p,hp,rfl⟩
  ·exact hk.lo
  ·exact hk.up
  ·exact hk.p p hp
 ·obtain ⟨e,he,hu⟩:=List.mem_flatMap.1 h
  have hk:=hok.v e he
  unfold veTys at hu
  simp only [List.cons_append,List.nil_append,List.mem_cons,List.mem_map] at hu
  rcases hu with rfl|⟨p,hp,rfl⟩
  ·exact hk.ty
  ·exact hk.p p hp
end Go.VC
namespace Go.VC.T07
open Go Go.VC Go.Proofs
end Go.VC.T07
end

section
namespace Go.VC
def ifSize (x:IF):Nat:=((typesL x).map Ty.size).sum+x.aliases.length+x.deprecated.length
def sizeE (env:List IF):Nat:=env.length+(env.map ifSize).sum
theorem ifSize_wt (x:IF):ifSize x+1≤x.wt:=by
 have a:=sum_flat (l:=x.types) (f:=teTys) (g:=Ty.size) (w:=TE.wt) fun y _=>by
  have:=bound_sum y.params
  simp only [teTys,List.map_append,List.sum_append,List.map_cons,List.map_nil,List.sum_cons,List.sum_nil,TE.wt];omega
 have b:=sum_flat (l:=x.values) (f:=veTys) (g:=Ty.size) (w:=VE.wt) fun y _=>by
  have:=bound_sum y.params
  simp only [veTys,List.map_append,List.sum_append,List.map_cons,List.map_nil,List.sum_cons,List.sum_nil,VE.wt];omega
 simp only [ifSize,typesL,List.map_append,List.sum_append,IF.wt];omega
theorem sizeE_wt (env:List IF):sizeE env≤(env.map IF.wt).sum:=by
 unfold sizeE
 induction env with
 |nil=>simp
 |cons x l ih=>have:=ifSize_wt x;simp only [List.length_cons,List.map_cons,List.sum_cons];omega
theorem sum_step {α:Type} {f:α→Nat} {l:List α} {i:Nat} (h:i<l.length):((l.take (i+1)).map f).sum=((l.take i).map f).sum+f l[i]:=by
 rw [take_succ' h,List.map_append,List.sum_append];simp
theorem sum_step_le {α:Type} {f:α→Nat} {l:List α} {i:Nat} (h:i<l.length):((l.take i).map f).sum+f l[i]≤(l.map f).sum:=by
 rw [← sum_step h];exact sum_map_take_le
end Go.VC
namespace Go.VC.T07
open Go Go.VC Go.Proofs
theorem F9c {t:Ty} (hle:Ty.le 4294967295 t) (hs:t.size≤4294967295) {c0:Int} {c1 c2:S} {c3 c4:D} {K:PV→List Ob→Prop} (ht:tyIs t c0 c1 c2 c3 c4) (h:∀ r:Int,r=t.size→K (.int .i64 r) []):
  FC Tryz.prog tt 9 [] [tyPV c0 c1 c2 c3 c4] K:=F9 t hle hs ht h
theorem F8 {env:List IF} {d:D} {K:PV→List Ob→Prop} (hd:d=encL encIF env) (hl:envOk env) (hw:(env.map IF.wt).sum≤4294967280)
  (h:∀ r:Int,r=Int.ofNat (sizeE env)→K (.int .i64 r) []):FC Tryz.prog tt 8 [] [.lst 40 d] K:=by
 have hse:=sizeE_wt env
 have hn:=hl.1
 obtain ⟨g,hg⟩:∃ g:Nat→Nat,g=fun i=>env.length+((env.take i).map ifSize).sum:=⟨_,rfl⟩
 have g0:g 0=env.length:=by rw [hg];simp
 have gs:∀ i (h:i<env.length),g (i+1)=g i+ifSize env[i]:=fun i h=>by rw [hg];simp only;rw [sum_step h];omega
 have gl:∀ i,g i≤sizeE env:=fun i=>by rw [hg];unfold sizeE;have:=sum_map_take_le (f:=ifSize) (l:=env) (i:=i);simp only;omega
 have gn:g env.length=sizeE env:=by rw [hg];unfold sizeE;simp only;rw [List.take_length]
 clear hg
 refine FC.enter (G:=g8) tt_ok mixed ⟨Tryz.func8,by rfl,rfl⟩ rfl rfl rfl ?_
 intro A C L X
 obtain ⟨n_d,hn_d,hlen_d⟩:=lenOf hd
 cbv
 refine X.loop (fun (y:Nat×Int)=>⟨[(4,.int .i64 y.1),(3,.int .i64 y.2),(0,.lst 40 d)],[]⟩)
  (fun y=>y.1≤n_d∧y.2=Int.ofNat (g y.1)) (fun y=>n_d-y.1) (0,A.len d) ⟨Nat.zero_le _,by rw [X.a,hlen_d,g0,hn_d]⟩ ?_ ?_
 ·(cbv;repeat' apply And.intro);all_goals try first|trivial|rfl|(rw [X.a];rfl)
 rintro ⟨i,z⟩ ⟨hi,hz⟩
 simp only at hi hz
 cbv
 refine ⟨fun h1=> ?_,fun h1=> ?_⟩
 ·have h5:i<env.length:=by obtain rfl:=X.a;simp only [hlen_d,SD,bNot] at h1;omega
  have k1:=ifIsAt X.a hd h5
  have hid:A.idx (Int.ofNat i) (A.len d):=by rw [X.a,hd];exact leaf_idx h5
  have hin:A.inr .i64 (A.add (Int.ofNat i) 1):=by rw [X.a];exact leaf_inc h5 (by omega)
  have hmem:=List.getElem_mem h5
  have hok:=hl.2 _ hmem
  have hwt:env[i].wt≤(env.map IF.wt).sum:=wt_mem hmem
  have htl:=typesL_len env[i]
  have hst:=gs i h5
  have hsl:=gl (i+1)
  clear h1
  cbv
  repeat' (first|apply And.intro|exact fun (_:FF)=>by kernel_rfl|(intro h2;cbv)|apply Or.inl)
  any_goals exact hid
  refine X.call (F25 k1 hok (by omega) fun dt hdt=> ?_)
  obtain ⟨ts,hts⟩:∃ ts,ts=typesL env[i]:=⟨_,rfl⟩
  have hdt:dt=encL encTy ts:=by rw [hts];exact hdt
  have hle:∀ u∈ts,Ty.le 4294967295 u:=fun u hu=>typesL_le hok (by rw [← hts];exact hu)
  have hsz:ifSize env[i]=(ts.map Ty.size).sum+env[i].aliases.length+env[i].deprecated.length:=by rw [hts];rfl
  rw [← hts] at htl
  obtain ⟨n_dt,hn_dt,hlen_dt⟩:=lenOf hdt
  cbv
  refine X.loop (fun (y:Nat×Int)=>⟨[(6,.int .i64 y.1),(3,.int .i64 y.2),(5,.lst 28 dt),(4,.int .i64 i),(0,.lst 40 d)],[]⟩)
   (fun y=>y.1≤n_dt∧y.2=Int.ofNat (g i+((ts.take y.1).map Ty.size).sum)) (fun y=>n_dt-y.1) (0,z) ⟨Nat.zero_le _,by simpa using hz⟩ ?_ ?_
  ·(cbv;repeat' apply And.intro);all_goals try first|trivial|rfl|(rw [X.a];rfl)
  rintro ⟨j,z2⟩ ⟨hj,hz2⟩
  simp only at hj hz2
  cbv
  refine ⟨fun h1=> ?_,fun h1=> ?_⟩
  ·have h6:j<ts.length:=by obtain rfl:=X.a;simp only [hlen_dt,SD,bNot] at h1;omega
   have k2:=tyAt X.a hdt h6
   have hid:A.idx (Int.ofNat j) (A.len dt):=by rw [X.a,hdt];exact leaf_idx h6
   have hin2:A.inr .i64 (A.add (Int.ofNat j) 1):=by rw [X.a];exact leaf_inc h6 (by omega)
   have hms:=List.getElem_mem h6
   have hss:=sum_step (f:=Ty.size) h6
   have hsl2:=sum_step_le (f:=Ty.size) h6
   clear h1
   cbv
   repeat' (first|apply And.intro|exact fun (_:FF)=>by kernel_rfl|(intro h2;cbv)|apply Or.inl)
   any_goals exact hid
   refine X.call (F9c (hle _ hms) (by omega) k2 fun v hv=> ?_)
   have hv':v=Int.ofNat ts[j].size:=hv
   clear hv
   have q1:A.add z2 v=Int.ofNat (g i+((ts.take (j+1)).map Ty.size).sum):=by rw [X.a,Std_add,hss,hz2,hv'];simp only [Int.ofNat_eq_natCast];omega
   have hin3:A.inr .i64 (A.add z2 v):=by rw [q1,X.a,Std_inr64];simp only [Int.ofNat_eq_natCast];omega
   cbv
   repeat' (first|apply And.intro|exact fun (_:FF)=>by kernel_rfl|(intro h2;cbv)|apply Or.inl)
   any_goals exact hin2
   any_goals exact hin3
   refine ⟨(j+1,_),⟨?_,q1⟩,?_,?_⟩
   ·simp only;omega
   ·simp only;omega
   (cbv;repeat' apply And.intro);all_goals try first|trivial|rfl|(rw [X.a];rfl)
  have h6:j=n_dt:=by obtain rfl:=X.a;simp only [hlen_dt,SD,bNot] at h1;omega
  rw [h6,hn_dt,List.take_length] at hz2
  clear h1 hj h6
  have la:A.len (A.cell d (Int.ofNat i) 3)=Int.ofNat env[i].aliases.length:=by rw [k1.2.2.2.1,X.a,Std_len];rfl
  have ld:A.len (A.cell d (Int.ofNat i) 4)=Int.ofNat env[i].deprecated.length:=by rw [k1.2.2.2.2,X.a,Std_len];rfl
  have q1:A.add z2 (A.len (A.cell d (Int.ofNat i) 3))=Int.ofNat (g i+(ts.map Ty.size).sum+env[i].aliases.length):=by rw [la,X.a,Std_add,hz2];simp only [Int.ofNat_eq_natCast];omega
  have q2:A.add (A.add z2 (A.len (A.cell d (Int.ofNat i) 3))) (A.len (A.cell d (Int.ofNat i) 4))=Int.ofNat (g (i+1)):=by rw [q1,ld,X.a,Std_add,hst,hsz];simp only [Int.ofNat_eq_natCast];omega
  have hi1:A.inr .i64 (A.add z2 (A.len (A.cell d (Int.ofNat i) 3))):=by rw [q1,X.a,Std_inr64];simp only [Int.ofNat_eq_natCast];omega
  have hi2:A.inr .i64 (A.add (A.add z2 (A.len (A.cell d (Int.ofNat i) 3))) (A.len (A.cell d (Int.ofNat i) 4))):=by rw [q2,X.a,Std_inr64];simp only [Int.ofNat_eq_natCast];omega
  cbv
  repeat' (first|apply And.intro|exact fun (_:FF)=>by kernel_rfl|(intro h2;cbv)|apply Or.inl)
  any_goals exact hid
  any_goals exact hin
  any_goals exact hi1
  any_goals exact hi2
  refine ⟨(i+1,_),⟨?_,q2⟩,?_,?_⟩
  ·simp only;omega
  ·simp only;omega
  (cbv;repeat' apply And.intro);all_goals try first|trivial|rfl|(rw [X.a];rfl)
 have h5:i=n_d:=by obtain rfl:=X.a;simp only [hlen_d,SD,bNot] at h1;omega
 rw [h5,hn_d,gn] at hz
 cbv
 exact h z hz
end Go.VC.T07
end

section
namespace Go.VC
def sA:S:=[97,47,118,49]
def sN:S:=[78]
def sV0:S:=[35,48]
def sV1:S:=[35,49]
def sF:S:=[97]
def sNx:S:=[110,101,120,116]
def awa:Ty:=.mk 9 [] sV0 [] []
def awb:Ty:=.mk 9 [] sV1 [] []
def awf:Ty:=.mk 8 [] [] [awb] [.mk sF (.mk 5 [] [] [awa] []) false]
def awS:Ty:=.mk 10 sA sN [] []
def awR:Ty:=.mk 6 [] [] [] [.mk sNx awS false]
def awN:Ty:=.mk 1 [] [] [] []
def awI (u:Ty):IF:=⟨sA,[⟨sN,[],awN,u⟩],[],[],[]⟩
theorem aw1:occ [] sV0 awf=(false,true):=by kernel_rfl
theorem aw2:occ [] sV1 awf=(true,false):=by kernel_rfl
theorem aw4:headE (awI awR)=0:=by kernel_rfl
theorem aw5:namesE (awI awR)=([],0):=by kernel_rfl
theorem aw6:diffE (awI awR)=([],0):=by kernel_rfl
theorem aw7:notesE (awI awR)=([],0):=by kernel_rfl
theorem aw8:wfE [awI awR] [] awN=0:=by kernel_rfl
theorem aw9:wfE [awI awR] [] awR=0:=by kernel_rfl
theorem aw10:wfE [awI awR] [] awS=0:=by kernel_rfl
theorem aw11:wfE [awI awR] [] awa=4:=by kernel_rfl
theorem aw12:wfE [awI awS] [] awN=0:=by kernel_rfl
theorem aw13:wfE [awI awS] [] awS=0:=by kernel_rfl
theorem aw14:guardB (awI awR) [sN] awN=true:=by kernel_rfl
theorem aw15:guardB (awI awR) [sN] awR=true:=by kernel_rfl
theorem aw16:regB (awI awR) [sN] [] awN=true:=by kernel_rfl
theorem aw17:regB (awI awR) [sN] [] awR=true:=by kernel_rfl
theorem aw18:guardB (awI awS) [sN] awS=false:=by kernel_rfl
theorem aw19:respF [] awf [] [⟨sV0,0,Ty.zero⟩]=false:=by kernel_rfl
theorem aw20:mentS (awI awR)=[]:=by kernel_rfl
end Go.VC
namespace Go.VC
theorem awT_of {u:Ty} {s:S} (h:(tyF (awI u) s).isSome=true):s=sN:=by
 obtain ⟨x,hx⟩:=Option.isSome_iff_exists.1 h
 have h1:=List.mem_of_find?_eq_some hx
 have h2:=List.find?_some hx
 simp [awI] at h1;subst h1
 simpa using (eq_of_beq h2).symm
theorem awGM {u:Ty} (hd:dirP (awI u) sN sN):GM (awI u) sN [sN]:=by
 have hr:Rch (awI u) sN sN:=.one hd
 refine ⟨fun s=>⟨fun h=> ?_,fun h=> ?_⟩,by simp,by simp⟩
 ·simp at h;subst h;exact ⟨hr,hr⟩
 ·simpa using awT_of h.1.has
theorem awD1:dirP (awI awR) sN sN:=⟨(sA,sN),by show (sA,sN)∈usesOf (awI awR) sN;rw [show usesOf (awI awR) sN=[(sA,sN)] by kernel_rfl];simp,by kernel_rfl⟩
theorem awD2:dirP (awI awS) sN sN:=⟨(sA,sN),by show (sA,sN)∈usesOf (awI awS) sN;rw [show usesOf (awI awS) sN=[(sA,sN)] by kernel_rfl];simp,by kernel_rfl⟩
theorem aw_sound1:soundB (awI awR) ⟨sN,[],awN,awR⟩=true:=by
 unfold soundB
 rw [show grp (awI awR) (TE.name ⟨sN,[],awN,awR⟩)=[sN] from (awGM awD1).grp.symm]
 rw [aw14,aw15,aw16,aw17]
 rw [if_neg (by rw [show ([sN].all fun s=>((tyF (awI awR) s).getD TE.zero).params.length==(TE.params ⟨sN,[],awN,awR⟩).length)=true by kernel_rfl];decide)]
 rfl
theorem aw_sound2:soundB (awI awS) ⟨sN,[],awN,awS⟩=false:=by
 unfold soundB
 rw [show grp (awI awS) (TE.name ⟨sN,[],awN,awS⟩)=[sN] from (awGM awD2).grp.symm]
 rw [aw18]
 split
 ·rfl
 ·cases guardB (awI awS) [sN] awN<;>rfl
theorem aw_typ1:typE [awI awR] (awI awR) ⟨sN,[],awN,awR⟩=0:=by
 unfold typE
 rw [show paramE wrongT (TE.params ⟨sN,[],awN,awR⟩)=0 from rfl,if_neg (by decide)]
 rw [show firstE [wfE [awI awR] ((TE.params ⟨sN,[],awN,awR⟩).map Pm.name) awN,wfE [awI awR] ((TE.params ⟨sN,[],awN,awR⟩).map Pm.name) awR]=0 by
  rw [show (TE.params ⟨sN,[],awN,awR⟩).map Pm.name=[] from rfl,aw8,aw9];rfl,if_neg (by decide)]
 rw [show respF [awI awR] awN [] (TE.params ⟨sN,[],awN,awR⟩)=true from rfl,show respF [awI awR] awR [] (TE.params ⟨sN,[],awN,awR⟩)=true from rfl,aw_sound1]
 rfl
theorem aw_typ2:typE [awI awS] (awI awS) ⟨sN,[],awN,awS⟩=14:=by
 unfold typE
 rw [show paramE wrongT (TE.params ⟨sN,[],awN,awS⟩)=0 from rfl,if_neg (by decide)]
 rw [show firstE [wfE [awI awS] ((TE.params ⟨sN,[],awN,awS⟩).map Pm.name) awN,wfE [awI awS] ((TE.params ⟨sN,[],awN,awS⟩).map Pm.name) awS]=0 by
  rw [show (TE.params ⟨sN,[],awN,awS⟩).map Pm.name=[] from rfl,aw12,aw13];rfl,if_neg (by decide)]
 rw [show respF [awI awS] awN [] (TE.params ⟨sN,[],awN,awS⟩)=true from rfl,show respF [awI awS] awS [] (TE.params ⟨sN,[],awN,awS⟩)=true from rfl,aw_sound2]
 rfl
theorem aw_if1:ifaceE [awI awR] sA=([],0):=by
 show ifaceI [awI awR] (awI awR)=([],0)
 unfold ifaceI
 rw [aw4,aw5,aw6,aw7]
 have h3:entriesE [awI awR] (awI awR)=([],0):=by
  unfold entriesE
  rw [show entL (typE [awI awR] (awI awR)) TE.name (awI awR).types=([],0) by
   show entL (typE [awI awR] (awI awR)) TE.name [⟨sN,[],awN,awR⟩]=([],0)
   rw [entL,aw_typ1];rfl]
  rfl
 rw [h3];rfl
theorem aw_if2:(ifaceE [awI awS] sA).2=14:=by
 show (ifaceI [awI awS] (awI awS)).2=14
 unfold ifaceI
 rw [show headE (awI awS)=0 by kernel_rfl,show namesE (awI awS)=([],0) by kernel_rfl,show diffE (awI awS)=([],0) by kernel_rfl]
 have h3:entriesE [awI awS] (awI awS)=(sN,14):=by
  unfold entriesE
  rw [show entL (typE [awI awS] (awI awS)) TE.name (awI awS).types=(sN,14) by
   show entL (typE [awI awS] (awI awS)) TE.name [⟨sN,[],awN,awS⟩]=(sN,14)
   rw [entL,aw_typ2];rfl]
  rfl
 rw [h3];rfl
theorem aw_env1:envE [awI awR]=([],0):=by
 unfold envE
 rw [if_neg (by decide)]
 have h1:envL [awI awR] none [awI awR]=([],0):=by
  rw [envL,show ifaceE [awI awR] (awI awR).path=([],0) from aw_if1];rfl
 have h2:entL (lpE [awI awR]) IF.path [awI awR]=([],0):=by
  refine entL_0 fun x hx=> ?_
  simp at hx;subst hx
  unfold lpE
  rw [if_neg]
  intro h
  have hg:∀ s,gOf [awI awR] s=[]:=by
   intro s
   have:=gOf_snoc [] (awI awR) s
   rw [List.nil_append] at this
   rw [this]
   have hm:menL (awI awR)=[]:=by
    cases hh:menL (awI awR) with
    |nil=>rfl
    |cons a l=>exact absurd (menL_mem (x:=awI awR) (s:=a) (by rw [hh];simp)) (by rw [aw20];simp)
   split
   ·exact hm
   ·rfl
  cases h with
  |one h=>rw [hg] at h;simp at h
  |more _ h=>rw [hg] at h;simp at h
 rw [h1,h2];rfl
theorem aw_env2:envE [awI awS]=(sA,14):=by
 unfold envE
 rw [if_neg (by decide)]
 have h1:envL [awI awS] none [awI awS]=(sA,14):=by
  rw [envL,show (ifaceE [awI awS] (awI awS).path).2=14 from aw_if2];rfl
 rw [h1];rfl
theorem aw_ent:entryE [awI awR] sA sN=0:=by
 show typE [awI awR] (awI awR) ⟨sN,[],awN,awR⟩=0
 exact aw_typ1
end Go.VC
end

section
namespace Go.VC
theorem leZ {k:Int} {m n:S}:Ty.le 4294967295 (.mk k m n [] []):=.mk _ (by simp [Ty.ar]) (by simp [Ty.fl]) (by simp [Ty.ar]) (by simp [Ty.fl])
theorem fitZ {k:Int} {m n:S} (hm:m.length≤100) (hn:n.length≤100):(Ty.mk k m n [] []).fit:=by
 refine ⟨leZ,by simp [Ty.size,Ty.sizes,Ty.sizef],fun u hu=> ?_⟩
 have:u=Ty.mk k m n [] []:=by simpa [Ty.all,Ty.alls,Ty.allf] using hu
 subst this
 exact ⟨by simp only [Ty.m];omega,by simp only [Ty.n];omega,by simp [Ty.fl]⟩
theorem awa5:Ty.le 4294967295 (.mk 5 [] [] [awa] []):=.mk _ (by simp [Ty.ar]) (by simp [Ty.fl]) (fun u hu=>by simp [Ty.ar] at hu;subst hu;exact leZ) (by simp [Ty.fl])
theorem awR_fit:awR.fit:=by
 refine ⟨.mk _ (by simp [awR,Ty.ar]) (by simp [awR,Ty.fl]) (by simp [awR,Ty.ar]) (fun f hf=> ?_),by decide,fun u hu=> ?_⟩
 ·simp [awR,Ty.fl] at hf;subst hf;exact leZ
 ·have:u=awR∨u=awS:=by rw [show awR.all=[awR,awS] by rfl] at hu;simpa using hu
  rcases this with rfl|rfl
  ·exact ⟨by decide,by decide,fun x hx=>by simp [awR,Ty.fl] at hx;subst hx;decide⟩
  ·exact ⟨by decide,by decide,fun x hx=>by simp [awS,Ty.fl] at hx⟩
theorem awS_fit:awS.fit:=fitZ (by decide) (by decide)
theorem awN_fit:awN.fit:=fitZ (by decide) (by decide)
theorem aw_fit {u:Ty} (hu:u.fit) (hs:1+u.size+0≤1048576):(awI u).fit:=by
 refine ⟨⟨by simp [awI],by simp [awI],by simp [awI],by simp [awI],fun x hx=> ?_,by simp [awI]⟩,by simp [awI];decide,?_,by simp [awI],by simp [awI],by simp [awI],by simp [awI],fun x hx=> ?_,by simp [awI],by simp [awI],by simp [awI]⟩
 ·simp [awI] at hx;subst hx
  exact ⟨by simp,by simp,leZ,hu.le⟩
 ·show ((awI u).types.map fun x=>x.lower.size+x.upper.size).sum≤1048576
  have h1:=hu.sz
  have h2:awN.size=1:=by rfl
  simp only [awI,List.map_cons,List.map_nil,List.sum_cons,List.sum_nil,h2]
  exact hs
 ·simp [awI] at hx;subst hx
  exact ⟨by show sN.length≤1048576;decide,by simp,by simp,awN_fit,hu⟩
theorem aw_ok {u:Ty} (hu:u.fit) (hs:1+u.size+0≤1048576):envOk [awI u]:=⟨by simp,fun x hx=>by simp at hx;subst hx;exact (aw_fit hu hs).ok⟩
end Go.VC
namespace Go.VC.T07
open Go Go.VC Go.Proofs
theorem F23 {u:Ty} {c0:Int} {c1 c2:S} {c3 c4:D} {K:PV→List Ob→Prop} (hu:tyIs u c0 c1 c2 c3 c4) (h:∀ d,d=encL encIF [awI u]→K (.lst 40 d) []):FC Tryz.prog tt 23 [] [tyPV c0 c1 c2 c3 c4] K:=by
 refine FC.enter (G:=g23) tt_ok mixed ⟨Tryz.func23,by rfl,rfl⟩ rfl rfl rfl ?_
 intro A C L X
 have q:=h (A.lit [[.str sA,A.lit [[.str sN,.list [],.int 1,.str [],.str [],.list [],.list [],.int c0,.str c1,.str c2,c3,c4]],.list [],.list [],.list []]]) (by
  obtain ⟨rfl,rfl,rfl,rfl,rfl⟩:=hu
  rw [X.a];simp only [encL,encIF,awI,List.map_cons,List.map_nil,encTE_eq];rfl)
 cbv
 exact q
theorem okR:envOk [awI awR]:=aw_ok awR_fit (by decide)
theorem okS:envOk [awI awS]:=aw_ok awS_fit (by decide)
theorem fitR:∀ i∈[awI awR],i.fit:=fun i hi=>by simp at hi;subst hi;exact aw_fit awR_fit (by decide)
theorem fitS:∀ i∈[awI awS],i.fit:=fun i hi=>by simp at hi;subst hi;exact aw_fit awS_fit (by decide)
theorem F24c {d:D} (hd:d=encL encIF [awI awR]) {K:PV→List Ob→Prop} (h:K (.int .i64 0) []):FC Tryz.prog tt 24 [] [.lst 40 d,.str sA,.str sN] K:=
 F24 hd okR fitR fun r hr=>by rw [hr,aw_ent];exact h
theorem F10c {d:D} (hd:d=encL encIF [awI awR]) {K:PV→List Ob→Prop} (h:K (.int .i64 0) []):FC Tryz.prog tt 10 [] [.lst 40 d,.lst 9 (.list []),tyPV 10 sA sN (.list []) (.list [])] K:=
 F10 (vs:=[]) (t:=awS) hd okR rfl (by simp) awS_fit.le (Nat.le_trans awS_fit.sz (by decide)) awS_fit.nod ⟨rfl,rfl,rfl,rfl,rfl⟩ fun r hr=>by rw [hr,aw10];exact h
theorem F10d {d:D} (hd:d=encL encIF [awI awR]) {K:PV→List Ob→Prop} (h:K (.int .i64 4) []):FC Tryz.prog tt 10 [] [.lst 40 d,.lst 9 (.list []),tyPV 9 [] sV0 (.list []) (.list [])] K:=
 F10 (vs:=[]) (t:=awa) hd okR rfl (by simp) leZ (by decide) (fitZ (by decide) (by decide)).nod ⟨rfl,rfl,rfl,rfl,rfl⟩ fun r hr=>by rw [hr,aw11];exact h
theorem F18c {dp:D} (hp:dp=encL encPm [⟨sV0,0,Ty.zero⟩]) (hle:Ty.le 4294967295 awf) {c3 c4:D} (ht:tyIs awf 8 [] [] c3 c4) {K:PV→List Ob→Prop} (h:K (.bool false) []):FC Tryz.prog tt 18 [] [.lst 40 (.list []),.lst 53 dp,tyPV 8 [] [] c3 c4] K:=
 F18 (env:=[]) rfl ⟨by simp,by simp⟩ hp (by simp) hle ht fun b hb=>by rw [hb,aw19];exact h
theorem F19c {c0:S} {c1 c2 c3 c4:D} {K:PV→List Ob→Prop} (hx:ifIs (awI awR) c0 c1 c2 c3 c4) (h:∀ r,Std.len r=1→K (.row 24 0) [.row 24 r true]):FC Tryz.prog tt 19 [] [ifPV c0 c1 c2 c3 c4] K:=
 F19 (aw_fit awR_fit (by decide)).ok (aw_fit awR_fit (by decide)).hsz (aw_fit awR_fit (by decide)).rf hx fun ls r hr h1 h2 h3=>h r (by
  obtain ⟨l,g1,g2⟩:=h3 sN (by rfl)
  have:l=[sN]:=g1.uniq (awGM awD1)
  subst this
  have hm:=g2 rfl
  have hl:ls.length≤1:=h2
  have hl2:0<ls.length:=List.length_pos_of_mem hm
  rw [hr,Std_len];omega)
theorem F7 {K:PV→List Ob→Prop} (h:K (.bool true) []):FC Tryz.prog tt 7 [] [] K:=by
 refine FC.enter (G:=g7) tt_ok mixed ⟨Tryz.func7,by rfl,rfl⟩ rfl rfl rfl ?_
 intro A C L X
 have eqs:∀ z:S,A.seq z z=true:=fun z=>by rw [X.a];simp [Std_seq]
 have eqi:∀ z:Int,A.eq z z=true:=fun z=>by rw [X.a];simp [Std_eq]
 have hf:tyIs awf 8 [] [] (A.lit [[.int 9,.str [],.str sV1,.list [],.list []]]) (A.lit [[.str sF,.int 5,.str [],.str [],A.lit [[.int 9,.str [],.str sV0,.list [],.list []]],.list [],.bool false]]):=by rw [X.a];exact ⟨rfl,rfl,rfl,rfl,rfl⟩
 have hR:tyIs awR 6 [] [] (.list []) (A.lit [[.str sNx,.int 10,.str sA,.str sN,.list [],.list [],.bool false]]):=by rw [X.a];exact ⟨rfl,rfl,rfl,rfl,rfl⟩
 have hS:tyIs awS 10 sA sN (.list []) (.list []):=⟨rfl,rfl,rfl,rfl,rfl⟩
 have ha:tyIs awa 9 [] sV0 (.list []) (.list []):=⟨rfl,rfl,rfl,rfl,rfl⟩
 have hle:Ty.le 4294967295 awf:=.mk _ (by simp [awf,Ty.ar]) (by simp [awf,Ty.fl]) (fun u hu=>by simp [awf,Ty.ar] at hu;subst hu;exact leZ) (fun f hf=>by simp [awf,Ty.fl] at hf;subst hf;exact awa5)
 have ok0:envOk []:=⟨by simp,by simp⟩
 have hwR:([awI awR].map IF.wt).sum≤268435456:=by decide
 have hwS:([awI awS].map IF.wt).sum≤268435456:=by decide
 cbv
 repeat' (first|apply And.intro|exact fun (_:FF)=>by kernel_rfl|(intro h2;cbv)|apply Or.inl)
 refine X.call (F22 (env:=[]) rfl ok0 hle hf fun a b hab=> ?_)
 have hab:(a,b)=occ [] sV0 awf:=hab
 rw [aw1] at hab
 cases hab
 cbv
 refine X.call (F22 (env:=[]) rfl ok0 hle hf fun a b hab=> ?_)
 have hab:(a,b)=occ [] sV1 awf:=hab
 rw [aw2] at hab
 cases hab
 cbv
 refine X.call (F23 hR fun d hd=> ?_)
 cbv
 refine X.call (F16 hd okR fitR hwR fun s r hsr=> ?_)
 rw [aw_env1] at hsr
 cases hsr
 cbv
 refine X.call (F23 hS fun d2 hd2=> ?_)
 cbv
 refine X.call (F16 hd2 okS fitS hwS fun s r hsr=> ?_)
 rw [aw_env2] at hsr
 cases hsr
 cbv
 refine X.call (F15 hd okR fitR fun s r hsr=> ?_)
 have hsr:(s,r)=ifaceE [awI awR] sA:=hsr
 rw [aw_if1] at hsr
 cases hsr
 have hnf:A.not false=true:=by rw [X.a];rfl
 have hpm:A.lit [[.str sV0,.int 0,.int 0,.str [],.str [],.list [],.list []]]=encL encPm [⟨sV0,0,Ty.zero⟩]:=by rw [X.a];simp only [encL,List.map_cons,List.map_nil,encPm_eq];rfl
 have hi0:A.idx 0 (A.len d):=by rw [X.a,hd];exact leaf_idx (i:=0) (by simp)
 have hif:=ifIsAt (i:=0) X.a hd (by simp)
 have htt:true=true:=rfl
 cbv
 repeat' (first|apply And.intro|exact fun (_:FF)=>by kernel_rfl|(intro h2;first|exact absurd ((hnf).symm.trans h2) (by decide)|exact absurd ((htt).symm.trans h2) (by decide)|exact absurd ((eqs _).symm.trans h2) (by decide)|exact absurd ((eqi _).symm.trans h2) (by decide)|cbv)|apply Or.inl|(refine X.call (F24c hd ?_);cbv)|(refine X.call (F10c hd ?_);cbv)|(refine X.call (F10d hd ?_);cbv)|(refine X.call (F18c hpm hle hf ?_);cbv)|(refine X.call (F19c hif fun r hr=> ?_);cbv))
 ·exact hi0
 ·have q:K (.bool (A.eq (A.len r) 1)) []:=by
   rw [show A.len r=1 by rw [X.a];exact hr,eqi];exact h
  exact q
end Go.VC.T07
end

section
namespace Go.VC
theorem orE_0 {a b:S×Int} (h:(orE a b).2=0):a.2=0∧b.2=0:=by
 unfold orE at h
 by_cases e:a.2=0
 ·rw [if_neg (by simpa using e)] at h;exact ⟨e,h⟩
 ·rw [if_pos e] at h;exact absurd h e
theorem orE_z {a b:S×Int} (h:a.2=0):orE a b=b:=by unfold orE;rw [if_neg (by simpa using h)]
theorem entL_z {α:Type} {e:α→Int} {n:α→S}:∀ {l:List α},(entL e n l).2=0→∀ x∈l,e x=0
 |[],_,x,hx=>by simp at hx
 |y::l,h,x,hx=>by
  rw [entL] at h
  by_cases e0:e y=0
  ·rw [if_neg (by simpa using e0)] at h
   rcases List.mem_cons.1 hx with rfl|hx
   ·exact e0
   ·exact entL_z h x hx
  ·rw [if_pos e0] at h;exact absurd h e0
structure IfOk (env:List IF) (i:IF):Prop where
 head:headE i=0
 names:(namesE i).2=0
 diff:(diffE i).2=0
 t:∀ x∈i.types,typE env i x=0
 v:∀ x∈i.values,valE env x=0
 a:∀ x∈i.aliases,aliasE env x=0
 notes:(notesE i).2=0
theorem ifaceI_0 {env:List IF} {i:IF} (h:(ifaceI env i).2=0):IfOk env i∧ifaceI env i=([],0):=by
 unfold ifaceI at h ⊢
 obtain ⟨h0,h⟩:=orE_0 h
 obtain ⟨h1,h⟩:=orE_0 h
 obtain ⟨h2,h⟩:=orE_0 h
 obtain ⟨h3,h⟩:=orE_0 h
 obtain ⟨h4,h⟩:=orE_0 h
 refine ⟨?_,by rw [orE_z h0,orE_z h1,orE_z h2,orE_z h3,orE_z h4]⟩
 have h5:=h3
 unfold entriesE at h5
 obtain ⟨e1,h5⟩:=orE_0 h5
 obtain ⟨e2,e3⟩:=orE_0 h5
 exact ⟨h0,h1,h2,entL_z e1,entL_z e2,entL_z e3,h4⟩
theorem IfOk.iface {env:List IF} {i:IF} (h:IfOk env i):ifaceI env i=([],0):=by
 unfold ifaceI
 rw [orE_z h.head,orE_z h.names,orE_z h.diff]
 have h3:entriesE env i=([],0):=by
  unfold entriesE
  rw [entL_0 h.t,entL_0 h.v,entL_0 h.a];rfl
 rw [h3,orE_z rfl,orE_z h.notes]
theorem envL_0 {env:List IF}:∀ {l:List IF} {p:Option S},(envL env p l).2=0→(∀ x∈l,(ifaceE env x.path).2=0)∧(∀ q,p=some q→∀ x∈l,slt q x.path=true)∧l.Pairwise (fun a b=>slt a.path b.path=true)
 |[],p,_=>⟨by simp,by simp,by simp⟩
 |x::l,none,h=>by
  rw [envL] at h
  by_cases e:(ifaceE env x.path).2=0
  ·rw [if_neg (by simpa using e)] at h
   obtain ⟨a,b,c⟩:=envL_0 h
   refine ⟨fun y hy=> ?_,by simp,List.pairwise_cons.2 ⟨b _ rfl,c⟩⟩
   rcases List.mem_cons.1 hy with rfl|hy
   ·exact e
   ·exact a y hy
  ·rw [if_pos e] at h;exact absurd h e
 |x::l,some p,h=>by
  rw [envL] at h
  by_cases e1:x.path=p
  ·rw [if_pos e1] at h;cases h
  ·rw [if_neg e1] at h
   by_cases e2:slt x.path p=true
   ·rw [if_pos e2] at h;cases h
   ·rw [if_neg e2] at h
    by_cases e:(ifaceE env x.path).2=0
    ·rw [if_neg (by simpa using e)] at h
     obtain ⟨a,b,c⟩:=envL_0 h
     have hpx:slt p x.path=true:=by
      cases hh:slt p x.path with
      |true=>rfl
      |false=>exact absurd (slt_tri (by simpa using e2) hh) e1
     refine ⟨fun y hy=> ?_,fun q hq y hy=> ?_,List.pairwise_cons.2 ⟨b _ rfl,c⟩⟩
     ·rcases List.mem_cons.1 hy with rfl|hy
      ·exact e
      ·exact a y hy
     ·cases hq
      rcases List.mem_cons.1 hy with rfl|hy
      ·exact hpx
      ·exact slt_trans hpx (b _ rfl y hy)
    ·rw [if_pos e] at h;exact absurd h e
theorem findI_self {env:List IF} (h:env.Pairwise (fun a b=>slt a.path b.path=true)) {x:IF} (hx:x∈env):findI env x.path=some x:=by
 unfold findI
 induction env with
 |nil=>simp at hx
 |cons y l ih=>
  rw [List.pairwise_cons] at h
  rw [List.find?_cons]
  rcases List.mem_cons.1 hx with rfl|hx
  ·simp
  ·have:(y.path==x.path)=false:=by
    rw [beq_eq_false_iff_ne];intro e
    have:=h.1 x hx
    rw [e,slt_irrefl] at this;cases this
   rw [this];exact ih h.2 hx
structure EnvOk (env:List IF):Prop where
 srt:env.Pairwise (fun a b=>slt a.path b.path=true)
 ok:∀ x∈env,IfOk env x
theorem envE_0 {env:List IF} (h:(envE env).2=0):EnvOk env:=by
 unfold envE at h
 by_cases e:64<env.length
 ·rw [if_pos e] at h;cases h
 ·rw [if_neg e] at h
  obtain ⟨h1,h2⟩:=orE_0 h
  obtain ⟨a,b,c⟩:=envL_0 h1
  refine ⟨c,fun x hx=> ?_⟩
  have:=a x hx
  unfold ifaceE at this
  rw [findI_self c hx] at this
  exact (ifaceI_0 this).1
theorem typE_0 {env:List IF} {i:IF} {x:TE} (h:typE env i x=0):wfE env (x.params.map Pm.name) x.lower=0∧wfE env (x.params.map Pm.name) x.upper=0∧respF env x.lower [] x.params=true∧respF env x.upper [] x.params=true∧soundB i x=true∧paramE wrongT x.params=0:=by
 unfold typE at h
 by_cases e0:paramE wrongT x.params=0
 ·rw [if_neg (by simpa using e0)] at h
  by_cases e1:firstE [wfE env (x.params.map Pm.name) x.lower,wfE env (x.params.map Pm.name) x.upper]=0
  ·rw [if_neg (by simpa using e1)] at h
   rw [firstE_cons,firstE_cons] at e1
   by_cases e2:wfE env (x.params.map Pm.name) x.lower=0
   ·rw [if_pos e2] at e1
    by_cases e3:wfE env (x.params.map Pm.name) x.upper=0
    ·by_cases e4:(!respF env x.lower [] x.params|| !respF env x.upper [] x.params)=true
     ·rw [if_pos e4] at h;cases h
     ·rw [if_neg e4] at h
      by_cases e5:soundB i x=false
      ·rw [if_pos e5] at h;cases h
      ·simp at e4
       exact ⟨e2,e3,e4.1,e4.2,by simpa using e5,e0⟩
    ·rw [if_neg e3] at e1;exact absurd e1 e3
   ·rw [if_neg e2] at e1;exact absurd e1 e2
  ·rw [if_pos e1] at h;exact absurd h e1
 ·rw [if_pos e0] at h;exact absurd h e0
end Go.VC
end

section
namespace Go.VC
theorem ltOf {A:Alg} (ha:A=Std) {α:Type} {f:α→List D} {l:List α} {d:D} (hd:d=encL f l) {i:Nat} (h:A.lt (Int.ofNat i) (A.len d)=true):i<l.length:=by
 subst ha hd;exact lt_of_lt h
theorem geOf {A:Alg} (ha:A=Std) {α:Type} {f:α→List D} {l:List α} {d:D} (hd:d=encL f l) {i:Nat} (h:A.lt (Int.ofNat i) (A.len d)=false):l.length≤i:=by
 subst ha hd;exact ge_of_lt h
theorem idxOf {A:Alg} (ha:A=Std) {α:Type} {f:α→List D} {l:List α} {d:D} (hd:d=encL f l) {i:Nat} (h:i<l.length):A.idx (Int.ofNat i) (A.len d):=by
 subst ha hd;exact leaf_idx h
theorem incOf {A:Alg} (ha:A=Std) {i n:Nat} (h:i<n) (hn:n≤4294967295):A.inr .i64 (A.add (Int.ofNat i) 1):=by
 subst ha;exact leaf_inc h (by omega)
theorem appOf {A:Alg} (ha:A=Std) {α:Type} {f:α→List D} {l k:List α} {d e:D} (hd:d=encL f l) (hek:e=encL f k):A.app d e=encL f (l++k):=by
 subst ha hd hek;exact Std_app
theorem bndOf {A:Alg} (ha:A=Std) {α β:Type} {f:α→List D} {g:β→List D} {l:List α} {k:List β} {d e:D} (hd:d=encL f l) (hek:e=encL g k) {n:Int} (h:((l.length+k.length:Nat):Int)≤n):A.bnd (A.add (A.len d) (A.len e)) n:=by
 subst ha hd hek
 rw [Std_add,Std_len,Std_len]
 exact ⟨by omega,by omega⟩
end Go.VC
namespace Go.VC.T07
open Go Go.VC Go.Proofs
end Go.VC.T07
end
