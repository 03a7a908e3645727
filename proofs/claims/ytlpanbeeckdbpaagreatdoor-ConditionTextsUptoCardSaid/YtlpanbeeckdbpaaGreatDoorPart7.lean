/- Part 7 of the common texts: T7b. -/
import Derived.Test.YtlpanbeeckdbpaaGreatDoorPart6
set_option linter.all false
set_option maxRecDepth 100000
set_option maxHeartbeats 16000000

section
namespace Go.VC.T07
open Go Go.VC Go.Proofs
theorem F7 {k ix v:Int} {m n:S} {dp d1 d2 d3 d4:D} {s0 t0:Int} {s1 s2 t1 t2:S} {pl:Nat} (hpl:Std.len dp=(pl:Int)) (h40:pl≤40) (hv:0≤ix→ix<pl→Std.asInt (Std.cell dp ix 1)=v) (hm:m.length≤300) (hn:n.length≤300)
 {K:PV→List Ob→Prop} (h:K (.str (textOf k m n ix pl v)) []):FC Tryz.prog tt 7 [] [.agg [.int .i64 k,.str m,.str n,.int .i64 ix,.lst 63 dp,.int .i64 s0,.str s1,.str s2,.lst 26 d1,.lst 81 d2,.int .i64 t0,.str t1,.str t2,.lst 26 d3,.lst 81 d4]] K:=by
 refine FC.enter (G:=g7) tt_ok mixed ⟨Tryz.func7,by rfl,rfl⟩ rfl rfl rfl ?_
 intro A C L X
 have sA:∀ {x y:S} {a b:Nat},LB x a→LB y b→a+b≤4096→A.inr .i64 (A.add (A.slen x) (A.slen y)):=by rw [X.a];exact fun h k=>lbS h k
 have lA:∀ {x y:S} {a b:Nat},LB x a→LB y b→LB (A.sapp x y) (a+b):=by rw [X.a];exact fun h k=>lb h k
 obtain ⟨dg,hdg⟩:∃ d,d=digs pl:=⟨_,rfl⟩
 obtain ⟨dx,hdx⟩:∃ d,d=digs ix.toNat:=⟨_,rfl⟩
 rw [← Int.toNat_natCast pl] at hdg
 have ldg:LB dg 2:=hdg▸digs_lb _
 have ldx:LB dx 2:=hdx▸digs_lb _
 have hm':LB m 300:=hm
 have hn':LB n 300:=hn
 have q0:A.lt k 0=true→k<0:=by rw [X.a];exact fun e=>of_decide_eq_true e
 have q1:A.lt k 0=false→¬k<0:=by rw [X.a];exact fun e=>of_decide_eq_false e
 have q2:A.le (A.len (A.lit wordsD)) k=true→9≤k:=by rw [X.a];exact fun e=>of_decide_eq_true e
 have q3:A.le (A.len (A.lit wordsD)) k=false→¬9≤k:=by rw [X.a];exact fun e=>of_decide_eq_false e
 have q4:∀ j,A.eq k j=true→k=j:=by rw [X.a];exact fun j e=>by simpa [Std_eq] using e
 have q5:∀ j,A.eq k j=false→¬k=j:=by rw [X.a];exact fun j e=>by simpa [Std_eq] using e
 have q6:A.lt ix 0=true→ix<0:=by rw [X.a];exact fun e=>of_decide_eq_true e
 have q7:A.lt ix 0=false→¬ix<0:=by rw [X.a];exact fun e=>of_decide_eq_false e
 have q8:A.le (A.len dp) ix=true→(pl:Int)≤ix:=by rw [X.a,hpl];exact fun e=>of_decide_eq_true e
 have q9:A.le (A.len dp) ix=false→¬(pl:Int)≤ix:=by rw [X.a,hpl];exact fun e=>of_decide_eq_false e
 have hvA:¬ix<0→¬(pl:Int)≤ix→A.asInt (A.cell dp ix 1)=v:=fun a b=>by rw [X.a];exact hv (by omega) (by omega)
 have qa:¬ix<0→¬(pl:Int)≤ix→A.lt (A.asInt (A.cell dp ix 1)) 0=true→v<0:=fun a b=>by rw [hvA a b,X.a];exact fun e=>of_decide_eq_true e
 have qb:¬ix<0→¬(pl:Int)≤ix→A.lt (A.asInt (A.cell dp ix 1)) 0=false→¬v<0:=fun a b=>by rw [hvA a b,X.a];exact fun e=>of_decide_eq_false e
 have qc:¬ix<0→¬(pl:Int)≤ix→A.lt 2 (A.asInt (A.cell dp ix 1))=true→2<v:=fun a b=>by rw [hvA a b,X.a];exact fun e=>of_decide_eq_true e
 have qd:¬ix<0→¬(pl:Int)≤ix→A.lt 2 (A.asInt (A.cell dp ix 1))=false→¬2<v:=fun a b=>by rw [hvA a b,X.a];exact fun e=>of_decide_eq_false e
 have wA:¬k<0→¬9≤k→LB (A.asStr (A.cell (A.lit wordsD) k 0)) 8:=fun a b=>by
  rw [X.a];show LB (Std.asStr (Std.cell (.list wordsD) k 0)) 8
  rw [words_at (by omega) (by omega)];exact words_lb _
 have iA:¬k<0→¬9≤k→A.idx k (A.len (A.lit wordsD)):=fun a b=>by rw [X.a];exact ⟨by omega,by show k<9;omega⟩
 have iB:¬ix<0→¬(pl:Int)≤ix→A.idx ix (A.len dp):=fun a b=>by rw [X.a,Std_idx,hpl];omega
 have c1:∀ K:PV→List Ob→Prop,K (.str dg) []→FC Tryz.prog tt 25 [] [.int .i64 (A.len dp)] K:=fun K hk=>by
  rw [X.a,hpl];rw [hdg,Int.toNat_natCast] at hk;exact F25 (by omega) hk
 have c2:¬ix<0→¬(pl:Int)≤ix→∀ K:PV→List Ob→Prop,K (.str dx) []→FC Tryz.prog tt 25 [] [.int .i64 ix] K:=fun a b K hk=>by
  obtain ⟨z,rfl⟩:=Int.eq_ofNat_of_zero_le (Int.not_lt.1 a)
  rw [hdx] at hk;exact F25 (by omega) hk
 have p0:k<0→K (.str []) []:=fun a=>by rw [textOf,if_pos a] at h;exact h
 have p1:¬k<0→9≤k→K (.str []) []:=fun a b=>by rw [textOf,if_neg a,if_pos b] at h;exact h
 have p2:¬k<0→¬9≤k→k=0→K (.str (A.sapp (A.sapp (A.asStr (A.cell (A.lit wordsD) k 0)) [32]) m)) []:=fun a b c=>by
  rw [textOf,if_neg a,if_neg b,if_pos c] at h
  obtain rfl:=X.a
  show K (.str (Std.sapp (Std.sapp (Std.asStr (Std.cell (.list wordsD) k 0)) [32]) m)) []
  rw [words_at (by omega) (by omega)];simpa only [Std_sapp,List.append_assoc] using h
 have p3:¬k<0→¬9≤k→¬k=0→(k=1∨¬k=1∧k=7)→K (.str (A.sapp (A.sapp (A.sapp (A.sapp (A.sapp (A.sapp (A.asStr (A.cell (A.lit wordsD) k 0)) [32]) m) [46]) n) [32]) dg)) []:=fun a b c d=>by
  rw [textOf,if_neg a,if_neg b,if_neg c] at h
  have h:K (.str (wordsL.getD k.toNat []++([32]++(m++([46]++(n++([32]++dg))))))) []:=by
   rw [hdg]
   rcases d with d|⟨d,e⟩
   ·rw [if_pos d] at h;exact h
   ·rw [if_neg d,if_pos e] at h;exact h
  obtain rfl:=X.a
  have e:=words_at (k:=k) (by omega) (by omega)
  show K (.str (Std.sapp (Std.sapp (Std.sapp (Std.sapp (Std.sapp (Std.sapp (Std.asStr (Std.cell (.list wordsD) k 0)) [32]) m) [46]) n) [32]) dg)) []
  rw [e];simpa only [Std_sapp,List.append_assoc] using h
 have p4:¬k<0→¬9≤k→¬k=0→¬k=1→¬k=7→k=2→(ix<0∨¬ix<0∧((pl:Int)≤ix∨¬(pl:Int)≤ix∧(v<0∨¬v<0∧2<v)))→K (.str []) []:=fun a b c d e f g=>by
  rw [textOf,if_neg a,if_neg b,if_neg c,if_neg d,if_neg e,if_pos f] at h
  rcases g with g|⟨g,g2|⟨g2,g3|⟨g3,g4⟩⟩⟩
  ·rw [if_pos g] at h;exact h
  ·rw [if_neg g,if_pos g2] at h;exact h
  ·rw [if_neg g,if_neg g2,if_pos g3] at h;exact h
  ·rw [if_neg g,if_neg g2,if_neg g3,if_pos g4] at h;exact h
 have p5:¬k<0→¬9≤k→¬k=0→¬k=1→¬k=7→k=2→¬ix<0→¬(pl:Int)≤ix→¬v<0→¬2<v→K (.str (A.sapp (A.sapp (A.sapp (A.sapp (A.sapp (A.sapp (A.sapp (A.sapp (A.asStr (A.cell (A.lit wordsD) k 0)) [32]) m) [46]) n) [32]) dx) [32]) (A.asStr (A.cell (A.lit signD) (A.asInt (A.cell dp ix 1)) 0)))) []:=fun a b c d e f g g2 g3 g4=>by
  rw [textOf,if_neg a,if_neg b,if_neg c,if_neg d,if_neg e,if_pos f,if_neg g,if_neg g2,if_neg g3,if_neg g4,←hdx] at h
  have hx:=hvA g g2
  rw [hx]
  obtain rfl:=X.a
  have e1:=words_at (k:=k) (by omega) (by omega)
  have e2:=sign_at (v:=v) (by omega) (by omega)
  show K (.str (Std.sapp (Std.sapp (Std.sapp (Std.sapp (Std.sapp (Std.sapp (Std.sapp (Std.sapp (Std.asStr (Std.cell (.list wordsD) k 0)) [32]) m) [46]) n) [32]) dx) [32]) (Std.asStr (Std.cell (.list signD) v 0)))) []
  rw [e1,e2];simpa only [Std_sapp,List.append_assoc] using h
 have p6:¬k<0→¬9≤k→¬k=0→¬k=1→¬k=7→¬k=2→K (.str (A.sapp (A.sapp (A.sapp (A.sapp (A.asStr (A.cell (A.lit wordsD) k 0)) [32]) m) [46]) n)) []:=fun a b c d e f=>by
  rw [textOf,if_neg a,if_neg b,if_neg c,if_neg d,if_neg e,if_neg f] at h
  obtain rfl:=X.a
  have e1:=words_at (k:=k) (by omega) (by omega)
  show K (.str (Std.sapp (Std.sapp (Std.sapp (Std.sapp (Std.asStr (Std.cell (.list wordsD) k 0)) [32]) m) [46]) n)) []
  rw [e1];simpa only [Std_sapp,List.append_assoc] using h
 have bB:¬ix<0→¬(pl:Int)≤ix→¬v<0→¬2<v→A.idx (A.asInt (A.cell dp ix 1)) (A.len (A.lit signD)):=fun a b c d=>by rw [hvA a b,X.a];show 0≤v∧v<3;omega
 have gA:¬ix<0→¬(pl:Int)≤ix→¬v<0→¬2<v→LB (A.asStr (A.cell (A.lit signD) (A.asInt (A.cell dp ix 1)) 0)) 1:=fun a b c d=>by
  rw [hvA a b,X.a];show LB (Std.asStr (Std.cell (.list signD) v 0)) 1
  rw [sign_at (by omega) (by omega)];exact sign_lb _
 cbv
 repeat' (first|apply And.intro|exact fun (_:FF)=>by kernel_rfl|(intro h2;cbv)|apply Or.inl|(refine X.call (c1 _ ?_);cbv)|(refine X.call (c2 (q7 (by assumption)) (q9 (by assumption)) _ ?_);cbv))
 all_goals (try have z1:=q1 (by assumption))
 all_goals (try have z2:=q3 (by assumption))
 all_goals (try have z3:=q5 0 (by assumption))
 all_goals (try have z4:=q5 1 (by assumption))
 all_goals (try have z5:=q5 7 (by assumption))
 all_goals (try have z6:=q5 2 (by assumption))
 all_goals (try have z7:=q7 (by assumption))
 all_goals (try have z8:=q9 (by assumption))
 all_goals (try have z9:=qb z7 z8 (by assumption))
 all_goals (try have za:=qd z7 z8 (by assumption))
 all_goals first
  |exact p0 (q0 (by assumption))
  |exact p1 z1 (q2 (by assumption))
  |exact p2 z1 z2 (q4 0 (by assumption))
  |exact p3 z1 z2 z3 (.inl (q4 1 (by assumption)))
  |exact p3 z1 z2 z3 (.inr ⟨z4,q4 7 (by assumption)⟩)
  |exact p4 z1 z2 z3 z4 z5 (q4 2 (by assumption)) (.inl (q6 (by assumption)))
  |exact p4 z1 z2 z3 z4 z5 (q4 2 (by assumption)) (.inr ⟨z7,.inl (q8 (by assumption))⟩)
  |exact p4 z1 z2 z3 z4 z5 (q4 2 (by assumption)) (.inr ⟨z7,.inr ⟨z8,.inl (qa z7 z8 (by assumption))⟩⟩)
  |exact p4 z1 z2 z3 z4 z5 (q4 2 (by assumption)) (.inr ⟨z7,.inr ⟨z8,.inr ⟨z9,qc z7 z8 (by assumption)⟩⟩⟩)
  |exact p5 z1 z2 z3 z4 z5 (q4 2 (by assumption)) z7 z8 z9 za
  |exact p6 z1 z2 z3 z4 z5 z6
  |exact iA z1 z2
  |exact iB z7 z8
  |exact bB z7 z8 z9 za
  |skip
 all_goals (apply sA<;>first|decide|repeat' (first|exact hm'|exact hn'|exact ldg|exact ldx|exact lb1 _|exact wA z1 z2|exact gA z7 z8 z9 za|apply lA))
end Go.VC.T07
end
