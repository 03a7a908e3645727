/- Part 7 of the common texts: TC TD. -/
import Derived.Test.YtlpanbeeckdbpaaGreatDoorPart6
set_option linter.all false
set_option maxRecDepth 100000
set_option maxHeartbeats 16000000

section
namespace Go.VC
theorem strAt {A:Alg} (hA:A=Std) {l:List S} {d:D} (hd:d=encL encS l) {i:Nat} (h:i<l.length):A.asStr (A.cell d (Int.ofNat i) 0)=l[i]:=by
 subst hA hd
 rw [Std_cell h];rfl
theorem intAt {A:Alg} (hA:A=Std) {l:List Int} {d:D} (hd:d=encL encI l) {i:Nat} (h:i<l.length):A.asInt (A.cell d (Int.ofNat i) 0)=l[i]:=by
 subst hA hd
 rw [Std_cell h];rfl
end Go.VC
namespace Go.VC.T07
open Go Go.VC Go.Proofs
set_option maxRecDepth 100000
def g34:Cfg:={tt:=tt,n:=5}
def g70:Cfg:={tt:=tt,n:=19}
def g31:Cfg:={tt:=tt,n:=9}
def g66:Cfg:={tt:=tt,n:=19}
def g33:Cfg:={tt:=tt,n:=42,n0:=1,view:=[38],own:=[41],live:=[0]}
theorem F34 {s:S} {K:PV→List Ob→Prop} (h:∀ b,b=(s==[])→K (.bool b) []):FC Tryz.prog tt 34 [] [.str s] K:=by
 refine FC.enter (G:=g34) tt_ok mixed ⟨Tryz.func34,by rfl,rfl⟩ rfl rfl rfl ?_
 intro A C L X
 have q:=h (A.seq s []) (by rw [X.a,Std_seq])
 cbv
 exact q
theorem F70 {l:List S} {d:D} {K:PV→List Ob→Prop} (hd:d=encL encS l) (hl:l.length≤4294967295)
 (h:∀ r:Int,r=idxF (fun s=>s==[]) l→K (.int .i64 r) []):FC Tryz.prog tt 70 [] [.lst 9 d,.clos 34 []] K:=by
 refine FC.enter (G:=g70) tt_ok mixed ⟨Tryz.func70,by rfl,rfl⟩ rfl rfl rfl ?_
 intro A C L X
 obtain ⟨n_d,hn_d,hlen_d⟩:=lenOf hd
 cbv
 refine X.loop (fun (i:Nat)=>⟨[(8,.int .i64 i),(7,.int .i64 (A.len d)),(1,.clos 34 []),(0,.lst 9 d)],[]⟩) (fun i=>i≤n_d∧∀ x∈l.take i,(fun s:S=>s==[]) x=false) (fun i=>n_d-i) 0 ⟨Nat.zero_le _,by simp⟩ ?_ ?_
 ·(cbv;repeat' apply And.intro);all_goals try first|trivial|rfl|(rw [X.a];rfl)
 rintro i ⟨hi,ha⟩
 cbv
 refine ⟨fun h1=> ?_,fun h1=> ?_⟩
 ·have h5:i<l.length:=by obtain rfl:=X.a;simp only [hlen_d,SD,bNot] at h1;omega
  have k1:=strAt X.a hd h5
  have hid:A.idx (Int.ofNat i) (A.len d):=by rw [X.a,hd];exact leaf_idx h5
  have hin:A.inr .i64 (A.add (Int.ofNat i) 1):=by rw [X.a];exact leaf_inc h5 (by omega)
  clear h1
  cbv
  repeat' (first|apply And.intro|exact fun (_:FF)=>by kernel_rfl|(intro h2;cbv)|apply Or.inl)
  any_goals exact hid
  refine X.call (F34 fun b hb=> ?_)
  have hb':b=(fun s:S=>s==[]) l[i]:=by rw [← k1];exact hb
  clear hb
  cbv
  repeat' (first|apply And.intro|exact fun (_:FF)=>by kernel_rfl|(intro h2;cbv)|apply Or.inl)
  any_goals exact hin
  ·refine h i ?_
   have hb2:b=true:=h2
   exact (idxF_some h5 ha (hb'.symm.trans hb2)).symm
  ·have hf:(fun s:S=>s==[]) l[i]=false:=by rename_i h3;have hb2:b=false:=h3;rw [← hb',hb2]
   refine ⟨i+1,⟨by omega,?_⟩,by omega,?_⟩
   ·rw [take_succ' h5];intro x hx
    rcases List.mem_append.1 hx with hx|hx
    ·exact ha x hx
    ·simp at hx;subst hx;exact hf
   (cbv;repeat' apply And.intro);all_goals try first|trivial|rfl|(rw [X.a];rfl)
 ·have h5:i=n_d:=by obtain rfl:=X.a;simp only [hlen_d,SD,bNot] at h1;omega
  subst h5
  cbv
  refine h (-1) ?_
  rw [hn_d,List.take_length] at ha
  exact (idxF_none ha).symm
theorem F33 {l:List S} {d:D} {K:PV→List Ob→Prop} (hd:d=encL encS l) (hl:l.length≤4294967290)
 (h:∀ r b,r=encL encS (l.filter fun s=> !(s==[]))→K (.row 9 1) [.dead,.row 9 r b]):FC Tryz.prog tt 33 [.row 9 d true] [.row 9 0,.clos 34 []] K:=by
 refine FC.enterLive (G:=g33) tt_ok mixed ⟨Tryz.func33,by rfl,rfl⟩ rfl rfl rfl ?_
 intro A C L X
 obtain ⟨n_d,hn_d,hlen_d⟩:=lenOf hd
 cbv
 refine X.call (F70 hd (by omega) fun r hr=> ?_)
 rcases idxF_cases (fun s:S=>s==[]) l with ⟨hr1,hno⟩|⟨i0,hi0,hr1,hp1,hno⟩
 ·rw [hr1] at hr
  have e1:A.eq r (-1)=true:=by rw [X.a,Std_eq,hr];rfl
  have q:=fun b=>h d b (by rw [List.filter_eq_self.2 (fun x hx=>by have:=hno x hx;simp only [this,Bool.not_false])];exact hd)
  cbv
  repeat' (first|apply And.intro|exact fun (_:FF)=>by kernel_rfl|(intro h2;cbv)|apply Or.inl)
  ·exact q true
  all_goals exact absurd (e1.symm.trans (by assumption)) (by decide)
 have hri:r=Int.ofNat i0:=by rw [hr,hr1];rfl
 have e1:A.eq (Int.ofNat i0) (-1)=false:=by rw [X.a,Std_eq];simp
 have hin0:A.inr .i64 (A.add (Int.ofNat i0) 1):=by rw [X.a];exact leaf_inc hi0 (by omega)
 subst hri
 clear hr
 cbv
 repeat' (first|apply And.intro|exact fun (_:FF)=>by kernel_rfl|(intro h2;cbv)|apply Or.inl)
 ·exact absurd (e1.symm.trans h2) (by decide)
 ·exact hin0
 refine X.loopP (fun (y:(Nat×Nat)×D)=>⟨[(6,.int .i64 y.1.2),(5,.int .i64 y.1.1),(1,.clos 34 []),(0,.row 9 1)],[.dead,.row 9 y.2 true]⟩)
  (fun y=>∃ m,y.2=encL encS m∧DelI (fun s:S=>s==[]) l m y.1.1 y.1.2) (fun y=>n_d-y.1.2) ((i0,i0+1),d) ⟨l,hd,DelI.init hi0 hno hp1⟩ ?_ ?_
 ·refine ⟨[0,1],rfl,?_⟩
  (cbv;repeat' apply And.intro);all_goals try first|trivial|rfl|(rw [X.a];rfl)
 rintro ⟨⟨i,j⟩,e⟩ ⟨m,he,hI⟩
 simp only at he hI
 have hml:=hI.len
 have hij:=hI.ij
 have hjl:=hI.jl
 obtain ⟨n_e,hn_e,hlen_e⟩:=lenOf he
 cbv
 refine ⟨fun h1=> ?_,fun h1=> ?_⟩
 ·have h5:j<l.length:=by obtain rfl:=X.a;simp only [hlen_e,SD,bNot] at h1;omega
  have h6:j<m.length:=by omega
  have k1:=strAt X.a he h6
  rw [hI.at h5] at k1
  have hid:A.idx (Int.ofNat j) (A.len e):=by rw [X.a,he];exact leaf_idx h6
  have hii:A.idx (Int.ofNat i) (A.len e):=by rw [X.a,he];exact leaf_idx (by omega)
  have hin:A.inr .i64 (A.add (Int.ofNat i) 1):=by rw [X.a];exact leaf_inc (n:=l.length) (by omega) (by omega)
  have hjn:A.inr .i64 (A.add (Int.ofNat j) 1):=by rw [X.a];exact leaf_inc h5 (by omega)
  have ks:A.setc e (Int.ofNat i) 0 [.str (A.asStr (A.cell e (Int.ofNat j) 0))]=encL encS (m.set i l[j]):=by
   rw [k1,X.a,he]
   exact Std_setc (y:=l[j]) rfl (by omega) rfl
  have hk:=hI.skip h5
  have hm:=hI.move h5
  clear h1
  cbv
  repeat' (first|apply And.intro|exact fun (_:FF)=>by kernel_rfl|(intro h2;cbv)|apply Or.inl)
  any_goals exact hid
  refine X.call (F34 fun b hb=> ?_)
  have hb':b=(l[j]==[]):=by rw [← k1];exact hb
  clear hb
  have nb:∀ c,A.not b=c→(l[j]==[])= !c:=fun c e=>by rw [← hb'];rw [X.a] at e;subst e;simp [Std_not]
  cbv
  repeat' (first|apply And.intro|exact fun (_:FF)=>by kernel_rfl|(intro h2;cbv)|apply Or.inl)
  any_goals exact hii
  any_goals exact hin
  any_goals exact hjn
  ·refine ⟨((i+1,j+1),_),⟨_,ks,hm (nb true (by assumption))⟩,by simp only;omega,[0,1],rfl,?_⟩
   (cbv;repeat' apply And.intro);all_goals try first|trivial|rfl|(rw [X.a];rfl)
  ·refine ⟨((i,j+1),_),⟨_,he,hk (nb false (by assumption))⟩,by simp only;omega,[0,1],rfl,?_⟩
   (cbv;repeat' apply And.intro);all_goals try first|trivial|rfl|(rw [X.a];rfl)
 ·have h5:j=l.length:=by obtain rfl:=X.a;simp only [hlen_e,SD,bNot] at h1;omega
  have hb:A.bnd (Int.ofNat i) (A.len e):=by rw [X.a,he,Std_len];show 0≤(i:Int)∧(i:Int)≤_;omega
  have hb0:A.idx 0 (A.len e):=by rw [X.a,he];exact leaf_idx (i:=0) (by omega)
  have hz:∀ z,A.part (A.app (A.part e 0 (Int.ofNat i)) z) 0 (Int.ofNat i)=encL encS (l.filter fun s=> !(s==[])):=fun z=>by
   rw [X.a,he,delEnd (by omega),hI.done h5]
  have q:=fun z b=>h _ b (hz z)
  have hrl:∀ z,A.len (A.app (A.part e 0 (Int.ofNat i)) (A.rep (A.sub (A.len e) (Int.ofNat i)) z))=Int.ofNat n_e:=fun z=>by rw [X.a,he,delLen (by omega),hn_e]
  have hb1:∀ z,A.idx 0 (A.len (A.app (A.part e 0 (Int.ofNat i)) (A.rep (A.sub (A.len e) (Int.ofNat i)) z))):=fun z=>by rw [hrl,X.a];show 0≤(0:Int)∧(0:Int)<(n_e:Int);omega
  have hb2:∀ z,A.bnd (Int.ofNat i) (A.len (A.app (A.part e 0 (Int.ofNat i)) (A.rep (A.sub (A.len e) (Int.ofNat i)) z))):=fun z=>by rw [hrl,X.a];show 0≤(i:Int)∧(i:Int)≤(n_e:Int);omega
  cbv
  repeat' (first|apply And.intro|exact fun (_:FF)=>by kernel_rfl|(intro h2;cbv)|apply Or.inl)
  all_goals first|exact hb0|exact hb|exact q _ _|exact hb1 _|exact hb2 _|skip
end Go.VC.T07
end

section
namespace Go.VC
theorem bstrN {n:Nat}:Std.bstr (.list [[.int (48+(n:Int))]])=[UInt8.ofNat (48+n)]:=by
 show [UInt8.ofNat (48+(n:Int)).toNat]=_
 rw [show (48+(n:Int)).toNat=48+n by omega]
theorem decN_len:∀ (m n:Nat),n<10 ^ (m+1)→(decN n).length≤m+1
 |0,n,h=>by rw [decN,if_pos (by omega)];simp
 |m+1,n,h=>by
  rw [decN]
  split
  ·simp
  ·have:=decN_len m (n/10) (by rw [Nat.pow_succ] at h;omega)
   simp;omega
theorem decN_ne (n:Nat):decN n≠[]:=by
 rw [decN];split<;>simp
end Go.VC
namespace Go.VC.T07
open Go Go.VC Go.Proofs
set_option maxRecDepth 100000
def g25:Cfg:={tt:=tt,n:=17}
theorem F66 {l:List Int} {x:Int} {d:D} {K:PV→List Ob→Prop} (hd:d=encL encI l) (hl:l.length≤4294967295)
 (h:∀ r:Int,r=idxF (fun s=>x==s) l→K (.int .i64 r) []):FC Tryz.prog tt 66 [] [.lst 3 d,.int .i64 x] K:=by
 refine FC.enter (G:=g66) tt_ok mixed ⟨Tryz.func66,by rfl,rfl⟩ rfl rfl rfl ?_
 intro A C L X
 obtain ⟨n_d,hn_d,hlen_d⟩:=lenOf hd
 cbv
 refine X.loop (fun (i:Nat)=>⟨[(8,.int .i64 i),(7,.int .i64 (A.len d)),(1,.int .i64 x),(0,.lst 3 d)],[]⟩) (fun i=>i≤n_d∧∀ y∈l.take i,(fun s:Int=>x==s) y=false) (fun i=>n_d-i) 0 ⟨Nat.zero_le _,by simp⟩ ?_ ?_
 ·(cbv;repeat' apply And.intro);all_goals try first|trivial|rfl|(rw [X.a];rfl)
 rintro i ⟨hi,ha⟩
 cbv
 refine ⟨fun h1=> ?_,fun h1=> ?_⟩
 ·have h5:i<l.length:=by obtain rfl:=X.a;simp only [hlen_d,SD,bNot] at h1;omega
  have k1:=intAt X.a hd h5
  have hid:A.idx (Int.ofNat i) (A.len d):=by rw [X.a,hd];exact leaf_idx h5
  have hin:A.inr .i64 (A.add (Int.ofNat i) 1):=by rw [X.a];exact leaf_inc h5 (by omega)
  have k2:A.eq x (A.asInt (A.cell d (Int.ofNat i) 0))=(fun s:Int=>x==s) l[i]:=by rw [k1,X.a];rfl
  clear h1
  cbv
  repeat' (first|apply And.intro|exact fun (_:FF)=>by kernel_rfl|(intro h2;cbv)|apply Or.inl)
  any_goals exact hid
  any_goals exact hin
  ·exact h i (idxF_some h5 ha (k2.symm.trans h2)).symm
  ·refine ⟨i+1,⟨by omega,?_⟩,by omega,?_⟩
   ·have hf:(fun s:Int=>x==s) l[i]=false:=by rename_i h3;exact k2.symm.trans h3
    rw [take_succ' h5];intro y hx
    rcases List.mem_append.1 hx with hx|hx
    ·exact ha y hx
    ·simp at hx;subst hx;exact hf
   (cbv;repeat' apply And.intro);all_goals try first|trivial|rfl|(rw [X.a];rfl)
 ·have h5:i=n_d:=by obtain rfl:=X.a;simp only [hlen_d,SD,bNot] at h1;omega
  subst h5
  cbv
  refine h (-1) ?_
  rw [hn_d,List.take_length] at ha
  exact (idxF_none ha).symm
theorem F31 {l:List Int} {x:Int} {d:D} {K:PV→List Ob→Prop} (hd:d=encL encI l) (hl:l.length≤4294967295)
 (h:∀ b,b=(l.any fun s=>x==s)→K (.bool b) []):FC Tryz.prog tt 31 [] [.lst 3 d,.int .i64 x] K:=by
 refine FC.enter (G:=g31) tt_ok mixed ⟨Tryz.func31,by rfl,rfl⟩ rfl rfl rfl ?_
 intro A C L X
 cbv
 refine X.call (F66 hd hl fun r hr=> ?_)
 have q:=h (A.le 0 r) (by rw [X.a,Std_le,hr,idxF_any])
 cbv
 exact q
theorem F25a {n:Nat} (hn:n<10) {K:PV→List Ob→Prop} (h:K (.str [UInt8.ofNat (48+n)]) []):FC Tryz.prog tt 25 [] [.int .i64 (Int.ofNat n)] K:=by
 refine FC.enter (G:=g25) tt_ok mixed ⟨Tryz.func25,by rfl,rfl⟩ rfl rfl rfl ?_
 intro A C L X
 have hlt:A.lt (Int.ofNat n) 10=true:=by rw [X.a,Std_lt,decide_eq_true_eq];simp;omega
 have key:K (.str (A.bstr (A.lit [[.int (A.add 48 (Int.ofNat n))]]))) []:=by
  obtain rfl:=X.a
  show K (.str (Std.bstr (.list [[.int (48+(n:Int))]]))) []
  rw [bstrN];exact h
 cbv
 repeat' (first|apply And.intro|exact fun (_:FF)=>by kernel_rfl|(intro h2;first|exact absurd ((hlt).symm.trans h2) (by decide)|cbv)|apply Or.inl)
 ·obtain rfl:=X.a;simp only [SD,bNot];omega
 ·obtain rfl:=X.a;show 0≤48+(n:Int)∧48+(n:Int)≤255;omega
 ·exact key
theorem F25s {n:Nat} (h10:¬n<10) (hi:(n:Int)≤9223372036854775807) (hl1:(decN (n/10)).length≤101) (ih:∀ {K:PV→List Ob→Prop},K (.str (decN (n/10))) []→FC Tryz.prog tt 25 [] [.int .i64 (Int.ofNat (n/10))] K)
 {K:PV→List Ob→Prop} (h:K (.str (decN n)) []):FC Tryz.prog tt 25 [] [.int .i64 (Int.ofNat n)] K:=by
 rw [decN,if_neg h10] at h
 refine FC.enter (G:=g25) tt_ok mixed ⟨Tryz.func25,by rfl,rfl⟩ rfl rfl rfl ?_
 intro A C L X
 have hlt:A.lt (Int.ofNat n) 10=false:=by rw [X.a,Std_lt,decide_eq_false_iff_not];simp;omega
 have hq:A.quo (Int.ofNat n) 10=Int.ofNat (n/10):=by rw [X.a];rfl
 have hr:A.rem (Int.ofNat n) 10=Int.ofNat (n % 10):=by rw [X.a];rfl
 obtain ⟨a,ha⟩:∃ a,a=decN (n/10):=⟨_,rfl⟩
 obtain ⟨b,hb⟩:∃ b,b=[UInt8.ofNat (48+n % 10)]:=⟨_,rfl⟩
 have hbl:b.length=1:=by rw [hb];rfl
 rw [← ha] at hl1
 have key:K (.str (A.sapp a b)) []:=by
  obtain rfl:=X.a;rw [ha,hb];exact h
 have g0:A.ne0 10:=by rw [X.a];show (10:Int)≠0;decide
 have g1:A.inr .i64 (A.quo (Int.ofNat n) 10):=by rw [hq,X.a];show -9223372036854775808≤((n/10:Nat):Int)∧((n/10:Nat):Int)≤9223372036854775807;omega
 have g2:A.inr .i64 (A.add (A.slen a) (A.slen b)):=by rw [X.a];show -9223372036854775808≤(a.length:Int)+b.length∧(a.length:Int)+b.length≤9223372036854775807;omega
 have c1:∀ K:PV→List Ob→Prop,K (.str a) []→FC Tryz.prog tt 25 [] [.int .i64 (A.quo (Int.ofNat n) 10)] K:=fun K h=>by rw [hq];exact ih (by rw [← ha];exact h)
 have c2:∀ K:PV→List Ob→Prop,K (.str b) []→FC Tryz.prog tt 25 [] [.int .i64 (A.rem (Int.ofNat n) 10)] K:=fun K h=>by rw [hr];exact F25a (by omega) (by rw [← hb];exact h)
 clear ha hb h ih
 cbv
 repeat' (first|apply And.intro|exact fun (_:FF)=>by kernel_rfl|(intro h2;first|exact absurd ((hlt).symm.trans h2) (by decide)|cbv)|apply Or.inl|(refine X.call (c1 _ ?_);cbv)|(refine X.call (c2 _ ?_);cbv))
 all_goals first|exact key|exact g0|exact g1|exact g2
theorem F25:∀ (m n:Nat) (_:n<10 ^ (m+1)) (_:m≤100) {K:PV→List Ob→Prop} (_:K (.str (decN n)) []),(n:Int)≤9223372036854775807→FC Tryz.prog tt 25 [] [.int .i64 (Int.ofNat n)] K
 |0,n,hn,hm,K,h,hi=>F25a (by omega) (by rw [decN,if_pos (by omega)] at h;exact h)
 |m+1,n,hn,hm,K,h,hi=>by
  by_cases h10:n<10
  ·refine F25a h10 ?_
   rw [decN,if_pos h10] at h;exact h
  have hl1:=decN_len m (n/10) (by rw [Nat.pow_succ] at hn;omega)
  exact F25s h10 hi (by omega) (fun hk=>F25 m (n/10) (by rw [Nat.pow_succ] at hn;omega) (by omega) hk (by omega)) h
end Go.VC.T07
end
