/- Part 6 of the common texts: T6 T6b T7. -/
import Derived.Test.YtlpanbeeckdbpaaGreatDoorPart4
import Derived.Test.YtlpanbeeckdbpaaGreatDoorPart5
set_option linter.all false
set_option maxRecDepth 100000
set_option maxHeartbeats 16000000

section
namespace Go.VC
def wordsL:List S:=[[109,111,100,117,108,101],[116,121,112,101],[118,97,114,105,97,110,99,101],[117,112,112,101,114],[108,111,119,101,114],[116,97,114,103,101,116],[102,97,99,97,100,101],[118,97,108,117,101],[115,99,104,101,109,101]]
def signL:List S:=[[43],[45],[61]]
def textOf (k:Int) (m n:S) (ix:Int) (pl:Int) (v:Int):S:=
 if k<0 then [] else if 9≤k then [] else if k=0 then wordsL.getD k.toNat []++([32]++m) else
 if k=1 then wordsL.getD k.toNat []++([32]++(m++([46]++(n++([32]++digs pl.toNat))))) else
 if k=7 then wordsL.getD k.toNat []++([32]++(m++([46]++(n++([32]++digs pl.toNat))))) else
 if k=2 then (if ix<0 then [] else if pl≤ix then [] else if v<0 then [] else if 2<v then [] else
  wordsL.getD k.toNat []++([32]++(m++([46]++(n++([32]++(digs ix.toNat++([32]++signL.getD v.toNat [])))))))) else
 wordsL.getD k.toNat []++([32]++(m++([46]++n)))
end Go.VC
namespace Go.VC.T07
open Go Go.VC Go.Proofs
def g25:Cfg:={tt:=tt,n:=17}
def g6:Cfg:={tt:=tt,n:=97,sch:=[(4,[0,1,2,3,4,5,6,7,8,9]),(15,[0,1,2,6,7,8,9,10,11,12,13,14,3,4,5,15,16,17])]}
def g7:Cfg:={tt:=tt,n:=98,sch:=[(4,[0,1,2,3,4,5,6,7,8,9])]}
theorem bstr1 {n:Nat}:Std.bstr (.list [[.int (48+(n:Int))]])=[UInt8.ofNat (48+n)]:=by
 show [UInt8.ofNat (48+(n:Int)).toNat]=_
 rw [show (48+(n:Int)).toNat=48+n by omega]
theorem F25a {n:Nat} (hn:n<10) {K:PV→List Ob→Prop} (h:K (.str [UInt8.ofNat (48+n)]) []):FC Tryz.prog tt 25 [] [.int .i64 (Int.ofNat n)] K:=by
 refine FC.enter (G:=g25) tt_ok mixed ⟨Tryz.func25,by rfl,rfl⟩ rfl rfl rfl ?_
 intro A C L X
 have hlt:A.lt (Int.ofNat n) 10=true:=by rw [X.a,Std_lt,decide_eq_true_eq];simp;omega
 have key:K (.str (A.bstr (A.lit [[.int (A.add 48 (Int.ofNat n))]]))) []:=by
  obtain rfl:=X.a
  show K (.str (Std.bstr (.list [[.int (48+(n:Int))]]))) []
  rw [bstr1];exact h
 cbv
 repeat' (first|apply And.intro|exact fun (_:FF)=>by kernel_rfl|(intro h2;first|exact absurd ((hlt).symm.trans h2) (by decide)|cbv)|apply Or.inl)
 ·obtain rfl:=X.a;simp only [SD,bNot];omega
 ·obtain rfl:=X.a;show 0≤48+(n:Int)∧48+(n:Int)≤255;omega
 ·exact key
theorem F25 {n:Nat} (hn:n<100) {K:PV→List Ob→Prop} (h:K (.str (digs n)) []):FC Tryz.prog tt 25 [] [.int .i64 (Int.ofNat n)] K:=by
 by_cases h10:n<10
 ·refine F25a h10 ?_
  rw [digs,if_pos h10] at h;exact h
 rw [digs,if_neg h10] at h
 refine FC.enter (G:=g25) tt_ok mixed ⟨Tryz.func25,by rfl,rfl⟩ rfl rfl rfl ?_
 intro A C L X
 have hlt:A.lt (Int.ofNat n) 10=false:=by rw [X.a,Std_lt,decide_eq_false_iff_not];simp;omega
 have hq:A.quo (Int.ofNat n) 10=Int.ofNat (n/10):=by rw [X.a];rfl
 have hr:A.rem (Int.ofNat n) 10=Int.ofNat (n % 10):=by rw [X.a];rfl
 have key:K (.str (A.sapp [UInt8.ofNat (48+n/10)] [UInt8.ofNat (48+n % 10)])) []:=by
  obtain rfl:=X.a;exact h
 have g0:A.ne0 10:=by rw [X.a];show (10:Int)≠0;decide
 have g1:A.inr .i64 (A.quo (Int.ofNat n) 10):=by rw [hq,X.a];show -9223372036854775808≤((n/10:Nat):Int)∧((n/10:Nat):Int)≤9223372036854775807;omega
 have g2:A.inr .i64 (A.add (A.slen [UInt8.ofNat (48+n/10)]) (A.slen [UInt8.ofNat (48+n % 10)])):=by rw [X.a];show -9223372036854775808≤(1:Int)+1∧(1:Int)+1≤9223372036854775807;omega
 have c1:∀ K:PV→List Ob→Prop,K (.str [UInt8.ofNat (48+n/10)]) []→FC Tryz.prog tt 25 [] [.int .i64 (A.quo (Int.ofNat n) 10)] K:=fun K h=>by rw [hq];exact F25a (by omega) h
 have c2:∀ K:PV→List Ob→Prop,K (.str [UInt8.ofNat (48+n % 10)]) []→FC Tryz.prog tt 25 [] [.int .i64 (A.rem (Int.ofNat n) 10)] K:=fun K h=>by rw [hr];exact F25a (by omega) h
 obtain ⟨a,ha⟩:∃ a,a=[UInt8.ofNat (48+n/10)]:=⟨_,rfl⟩
 obtain ⟨b,hb⟩:∃ b,b=[UInt8.ofNat (48+n % 10)]:=⟨_,rfl⟩
 rw [← ha,←hb] at key g2
 rw [← ha] at c1
 rw [← hb] at c2
 cbv
 repeat' (first|apply And.intro|exact fun (_:FF)=>by kernel_rfl|(intro h2;first|exact absurd ((hlt).symm.trans h2) (by decide)|cbv)|apply Or.inl|(refine X.call (c1 _ ?_);cbv)|(refine X.call (c2 _ ?_);cbv))
 all_goals first|exact key|exact g0|exact g1|exact g2
end Go.VC.T07
end

section
namespace Go.VC
def wordsD:List (List D):=[[.str [109,111,100,117,108,101]],[.str [116,121,112,101]],[.str [118,97,114,105,97,110,99,101]],[.str [117,112,112,101,114]],[.str [108,111,119,101,114]],[.str [116,97,114,103,101,116]],[.str [102,97,99,97,100,101]],[.str [118,97,108,117,101]],[.str [115,99,104,101,109,101]]]
def signD:List (List D):=[[.str [43]],[.str [45]],[.str [61]]]
def LB (x:S) (n:Nat):Prop:=x.length≤n
theorem lb {x y:S} {a b:Nat} (h:LB x a) (k:LB y b):LB (Std.sapp x y) (a+b):=by
 unfold LB at*
 show (x++y).length≤_
 rw [List.length_append];omega
theorem lb1 (c:UInt8):LB [c] 1:=Nat.le_refl _
theorem lbS {x y:S} {a b:Nat} (h:LB x a) (k:LB y b) (hab:a+b≤4096):Std.inr .i64 (Std.add (Std.slen x) (Std.slen y)):=by
 unfold LB at*
 show -9223372036854775808≤(x.length:Int)+(y.length:Int)∧(x.length:Int)+(y.length:Int)≤9223372036854775807
 omega
theorem words_at {k:Int} (h0:0≤k) (h9:k<9):Std.asStr (Std.cell (.list wordsD) k 0)=wordsL.getD k.toNat []:=by
 obtain ⟨n,rfl⟩:=Int.eq_ofNat_of_zero_le h0
 match n,h9 with
 |0,_|1,_|2,_|3,_|4,_|5,_|6,_|7,_|8,_=>rfl
 |n+9,h=>omega
theorem words_lb (n:Nat):LB (wordsL.getD n []) 8:=by
 match n with
 |0|1|2|3|4|5|6|7|8=>unfold LB;decide
 |n+9=>show ([]:S).length≤8;decide
theorem sign_at {v:Int} (h0:0≤v) (h2:v≤2):Std.asStr (Std.cell (.list signD) v 0)=signL.getD v.toNat []:=by
 obtain ⟨n,rfl⟩:=Int.eq_ofNat_of_zero_le h0
 match n,h2 with
 |0,_|1,_|2,_=>rfl
 |n+3,h=>omega
theorem sign_ss {v:Int} (h0:0≤v) (h2:v≤2):Std.ssub (Std.ssub [43,45,61] v 3) 0 1=signL.getD v.toNat []:=by
 obtain ⟨n,rfl⟩:=Int.eq_ofNat_of_zero_le h0
 match n,h2 with
 |0,_|1,_|2,_=>rfl
 |n+3,h=>omega
theorem Std_sapp {x y:S}:Std.sapp x y=x++y:=rfl
theorem digs_lb (n:Nat):LB (digs n) 2:=by
 unfold digs;split<;>(unfold LB;simp)
theorem sign_lb (n:Nat):LB (signL.getD n []) 1:=by
 match n with
 |0|1|2=>unfold LB;decide
 |n+3=>show ([]:S).length≤1;decide
theorem sign_len {v:Int} (h0:0≤v) (h2:v≤2):Std.bnd 1 (Std.slen (Std.ssub [43,45,61] v 3)):=by
 obtain ⟨n,rfl⟩:=Int.eq_ofNat_of_zero_le h0
 match n,h2 with
 |0,_|1,_|2,_=>exact ⟨by decide,by decide⟩
 |n+3,h=>omega
end Go.VC
end

section
namespace Go.VC.T07
open Go Go.VC Go.Proofs
theorem F6 {k ix v:Int} {m n:S} {dp d1 d2 d3 d4:D} {s0 t0:Int} {s1 s2 t1 t2:S} {pl:Nat} (hpl:Std.len dp=(pl:Int)) (h40:pl≤40) (hv:0≤ix→ix<pl→Std.asInt (Std.cell dp ix 1)=v) (hm:m.length≤300) (hn:n.length≤300)
 {K:PV→List Ob→Prop} (h:K (.str (textOf k m n ix pl v)) []):FC Tryz.prog tt 6 [] [.agg [.int .i64 k,.str m,.str n,.int .i64 ix,.lst 63 dp,.int .i64 s0,.str s1,.str s2,.lst 26 d1,.lst 81 d2,.int .i64 t0,.str t1,.str t2,.lst 26 d3,.lst 81 d4]] K:=by
 refine FC.enter (G:=g6) tt_ok mixed ⟨Tryz.func6,by rfl,rfl⟩ rfl rfl rfl ?_
 intro A C L X
 have sA:∀ {x y:S} {a b:Nat},LB x a→LB y b→a+b≤4096→A.inr .i64 (A.add (A.slen x) (A.slen y)):=by rw [X.a];exact fun h k=>lbS h k
 have lA:∀ {x y:S} {a b:Nat},LB x a→LB y b→LB (A.sapp x y) (a+b):=by rw [X.a];exact fun h k=>lb h k
 obtain ⟨dg,hdg⟩:∃ d,d=digs pl:=⟨_,rfl⟩
 obtain ⟨dx,hdx⟩:∃ d,d=digs ix.toNat:=⟨_,rfl⟩
 rw [← Int.toNat_natCast pl] at hdg
 have ldg:LB dg 2:=hdg▸digs_lb _
 have ldx:LB dx 2:=hdx▸digs_lb _
 have hm':LB m 300:=hm
 have hn':LB n 300:=hn
 have q0:A.lt k 0=true→k<0:=by rw [X.a];exact fun e=>of_decide_eq_true e
 have q1:A.lt k 0=false→¬k<0:=by rw [X.a];exact fun e=>of_decide_eq_false e
 have q2:A.le (A.len (A.lit wordsD)) k=true→9≤k:=by rw [X.a];exact fun e=>of_decide_eq_true e
 have q3:A.le (A.len (A.lit wordsD)) k=false→¬9≤k:=by rw [X.a];exact fun e=>of_decide_eq_false e
 have q4:∀ j,A.eq k j=true→k=j:=by rw [X.a];exact fun j e=>by simpa [Std_eq] using e
 have q5:∀ j,A.eq k j=false→¬k=j:=by rw [X.a];exact fun j e=>by simpa [Std_eq] using e
 have q6:A.lt ix 0=true→ix<0:=by rw [X.a];exact fun e=>of_decide_eq_true e
 have q7:A.lt ix 0=false→¬ix<0:=by rw [X.a];exact fun e=>of_decide_eq_false e
 have q8:A.le (A.len dp) ix=true→(pl:Int)≤ix:=by rw [X.a,hpl];exact fun e=>of_decide_eq_true e
 have q9:A.le (A.len dp) ix=false→¬(pl:Int)≤ix:=by rw [X.a,hpl];exact fun e=>of_decide_eq_false e
 have hvA:¬ix<0→¬(pl:Int)≤ix→A.asInt (A.cell dp ix 1)=v:=fun a b=>by rw [X.a];exact hv (by omega) (by omega)
 have qa:¬ix<0→¬(pl:Int)≤ix→A.lt (A.asInt (A.cell dp ix 1)) 0=true→v<0:=fun a b=>by rw [hvA a b,X.a];exact fun e=>of_decide_eq_true e
 have qb:¬ix<0→¬(pl:Int)≤ix→A.lt (A.asInt (A.cell dp ix 1)) 0=false→¬v<0:=fun a b=>by rw [hvA a b,X.a];exact fun e=>of_decide_eq_false e
 have qc:¬ix<0→¬(pl:Int)≤ix→A.lt 2 (A.asInt (A.cell dp ix 1))=true→2<v:=fun a b=>by rw [hvA a b,X.a];exact fun e=>of_decide_eq_true e
 have qd:¬ix<0→¬(pl:Int)≤ix→A.lt 2 (A.asInt (A.cell dp ix 1))=false→¬2<v:=fun a b=>by rw [hvA a b,X.a];exact fun e=>of_decide_eq_false e
 have wA:¬k<0→¬9≤k→LB (A.asStr (A.cell (A.lit wordsD) k 0)) 8:=fun a b=>by
  rw [X.a];show LB (Std.asStr (Std.cell (.list wordsD) k 0)) 8
  rw [words_at (by omega) (by omega)];exact words_lb _
 have iA:¬k<0→¬9≤k→A.idx k (A.len (A.lit wordsD)):=fun a b=>by rw [X.a];exact ⟨by omega,by show k<9;omega⟩
 have iB:¬ix<0→¬(pl:Int)≤ix→A.idx ix (A.len dp):=fun a b=>by rw [X.a,Std_idx,hpl];omega
 have c1:∀ K:PV→List Ob→Prop,K (.str dg) []→FC Tryz.prog tt 24 [] [.int .i64 (A.len dp)] K:=fun K hk=>by
  rw [X.a,hpl];rw [hdg,Int.toNat_natCast] at hk;exact F24 (by omega) hk
 have c2:¬ix<0→¬(pl:Int)≤ix→∀ K:PV→List Ob→Prop,K (.str dx) []→FC Tryz.prog tt 24 [] [.int .i64 ix] K:=fun a b K hk=>by
  obtain ⟨z,rfl⟩:=Int.eq_ofNat_of_zero_le (Int.not_lt.1 a)
  rw [hdx] at hk;exact F24 (by omega) hk
 have p0:k<0→K (.str []) []:=fun a=>by rw [textOf,if_pos a] at h;exact h
 have p1:¬k<0→9≤k→K (.str []) []:=fun a b=>by rw [textOf,if_neg a,if_pos b] at h;exact h
 have p2:¬k<0→¬9≤k→k=0→K (.str (A.sapp (A.sapp (A.asStr (A.cell (A.lit wordsD) k 0)) [32]) m)) []:=fun a b c=>by
  rw [textOf,if_neg a,if_neg b,if_pos c] at h
  obtain rfl:=X.a
  show K (.str (Std.sapp (Std.sapp (Std.asStr (Std.cell (.list wordsD) k 0)) [32]) m)) []
  rw [words_at (by omega) (by omega)];simpa only [Std_sapp,List.append_assoc] using h
 have p3:¬k<0→¬9≤k→¬k=0→(k=1∨¬k=1∧k=7)→K (.str (A.sapp (A.sapp (A.sapp (A.sapp (A.asStr (A.cell (A.lit wordsD) k 0)) [32]) m) (A.sapp [46] n)) (A.sapp [32] dg))) []:=fun a b c d=>by
  rw [textOf,if_neg a,if_neg b,if_neg c] at h
  have h:K (.str (wordsL.getD k.toNat []++([32]++(m++([46]++(n++([32]++dg))))))) []:=by
   rw [hdg]
   rcases d with d|⟨d,e⟩
   ·rw [if_pos d] at h;exact h
   ·rw [if_neg d,if_pos e] at h;exact h
  obtain rfl:=X.a
  have e:=words_at (k:=k) (by omega) (by omega)
  show K (.str (Std.sapp (Std.sapp (Std.sapp (Std.sapp (Std.asStr (Std.cell (.list wordsD) k 0)) [32]) m) (Std.sapp [46] n)) (Std.sapp [32] dg))) []
  rw [e];simpa only [Std_sapp,List.append_assoc] using h
 have p4:¬k<0→¬9≤k→¬k=0→¬k=1→¬k=7→k=2→(ix<0∨¬ix<0∧((pl:Int)≤ix∨¬(pl:Int)≤ix∧(v<0∨¬v<0∧2<v)))→K (.str []) []:=fun a b c d e f g=>by
  rw [textOf,if_neg a,if_neg b,if_neg c,if_neg d,if_neg e,if_pos f] at h
  rcases g with g|⟨g,g2|⟨g2,g3|⟨g3,g4⟩⟩⟩
  ·rw [if_pos g] at h;exact h
  ·rw [if_neg g,if_pos g2] at h;exact h
  ·rw [if_neg g,if_neg g2,if_pos g3] at h;exact h
  ·rw [if_neg g,if_neg g2,if_neg g3,if_pos g4] at h;exact h
 have p5:¬k<0→¬9≤k→¬k=0→¬k=1→¬k=7→k=2→¬ix<0→¬(pl:Int)≤ix→¬v<0→¬2<v→K (.str (A.sapp (A.sapp (A.sapp (A.sapp (A.asStr (A.cell (A.lit wordsD) k 0)) [32]) m) (A.sapp [46] n)) (A.sapp (A.sapp (A.sapp [32] dx) [32]) (A.ssub (A.ssub [43,45,61] (A.asInt (A.cell dp ix 1)) (A.slen [43,45,61])) 0 1)))) []:=fun a b c d e f g g2 g3 g4=>by
  rw [textOf,if_neg a,if_neg b,if_neg c,if_neg d,if_neg e,if_pos f,if_neg g,if_neg g2,if_neg g3,if_neg g4,←hdx] at h
  have hx:=hvA g g2
  rw [hx]
  obtain rfl:=X.a
  have e1:=words_at (k:=k) (by omega) (by omega)
  have e2:=sign_ss (v:=v) (by omega) (by omega)
  show K (.str (Std.sapp (Std.sapp (Std.sapp (Std.sapp (Std.asStr (Std.cell (.list wordsD) k 0)) [32]) m) (Std.sapp [46] n)) (Std.sapp (Std.sapp (Std.sapp [32] dx) [32]) (Std.ssub (Std.ssub [43,45,61] v 3) 0 1)))) []
  rw [e1,e2];simpa only [Std_sapp,List.append_assoc] using h
 have p6:¬k<0→¬9≤k→¬k=0→¬k=1→¬k=7→¬k=2→K (.str (A.sapp (A.sapp (A.sapp (A.asStr (A.cell (A.lit wordsD) k 0)) [32]) m) (A.sapp [46] n))) []:=fun a b c d e f=>by
  rw [textOf,if_neg a,if_neg b,if_neg c,if_neg d,if_neg e,if_neg f] at h
  obtain rfl:=X.a
  have e1:=words_at (k:=k) (by omega) (by omega)
  show K (.str (Std.sapp (Std.sapp (Std.sapp (Std.asStr (Std.cell (.list wordsD) k 0)) [32]) m) (Std.sapp [46] n))) []
  rw [e1];simpa only [Std_sapp,List.append_assoc] using h
 have bA:A.bnd (A.slen [43,45,61]) (A.slen [43,45,61]):=by rw [X.a];exact ⟨by decide,by decide⟩
 have bB:¬ix<0→¬(pl:Int)≤ix→¬v<0→¬2<v→A.bnd (A.asInt (A.cell dp ix 1)) (A.slen [43,45,61]):=fun a b c d=>by rw [hvA a b,X.a];show 0≤v∧v≤3;omega
 have bC:¬ix<0→¬(pl:Int)≤ix→¬v<0→¬2<v→A.bnd 1 (A.slen (A.ssub [43,45,61] (A.asInt (A.cell dp ix 1)) (A.slen [43,45,61]))):=fun a b c d=>by rw [hvA a b,X.a];exact sign_len (by omega) (by omega)
 have bD:A.bnd 0 1:=by rw [X.a];exact ⟨by decide,by decide⟩
 have gA:¬ix<0→¬(pl:Int)≤ix→¬v<0→¬2<v→LB (A.ssub (A.ssub [43,45,61] (A.asInt (A.cell dp ix 1)) (A.slen [43,45,61])) 0 1) 1:=fun a b c d=>by
  rw [hvA a b,X.a];show LB (Std.ssub (Std.ssub [43,45,61] v 3) 0 1) 1
  rw [sign_ss (by omega) (by omega)];exact sign_lb _
 cbv
 repeat' (first|apply And.intro|exact fun (_:FF)=>by kernel_rfl|(intro h2;cbv)|apply Or.inl|(refine X.call (c1 _ ?_);cbv)|(refine X.call (c2 (q7 (by assumption)) (q9 (by assumption)) _ ?_);cbv))
 all_goals (try have z1:=q1 (by assumption))
 all_goals (try have z2:=q3 (by assumption))
 all_goals (try have z3:=q5 0 (by assumption))
 all_goals (try have z4:=q5 1 (by assumption))
 all_goals (try have z5:=q5 7 (by assumption))
 all_goals (try have z6:=q5 2 (by assumption))
 all_goals (try have z7:=q7 (by assumption))
 all_goals (try have z8:=q9 (by assumption))
 all_goals (try have z9:=qb z7 z8 (by assumption))
 all_goals (try have za:=qd z7 z8 (by assumption))
 all_goals first
  |exact p0 (q0 (by assumption))
  |exact p1 z1 (q2 (by assumption))
  |exact p2 z1 z2 (q4 0 (by assumption))
  |exact p3 z1 z2 z3 (.inl (q4 1 (by assumption)))
  |exact p3 z1 z2 z3 (.inr ⟨z4,q4 7 (by assumption)⟩)
  |exact p4 z1 z2 z3 z4 z5 (q4 2 (by assumption)) (.inl (q6 (by assumption)))
  |exact p4 z1 z2 z3 z4 z5 (q4 2 (by assumption)) (.inr ⟨z7,.inl (q8 (by assumption))⟩)
  |exact p4 z1 z2 z3 z4 z5 (q4 2 (by assumption)) (.inr ⟨z7,.inr ⟨z8,.inl (qa z7 z8 (by assumption))⟩⟩)
  |exact p4 z1 z2 z3 z4 z5 (q4 2 (by assumption)) (.inr ⟨z7,.inr ⟨z8,.inr ⟨z9,qc z7 z8 (by assumption)⟩⟩⟩)
  |exact p5 z1 z2 z3 z4 z5 (q4 2 (by assumption)) z7 z8 z9 za
  |exact p6 z1 z2 z3 z4 z5 z6
  |exact iA z1 z2
  |exact iB z7 z8
  |exact bA
  |exact bB z7 z8 z9 za
  |exact bC z7 z8 z9 za
  |exact bD
  |skip
 all_goals (apply sA<;>first|decide|repeat' (first|exact hm'|exact hn'|exact ldg|exact ldx|exact lb1 _|exact wA z1 z2|exact gA z7 z8 z9 za|apply lA))
end Go.VC.T07
end
