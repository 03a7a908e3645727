/- Part 3 of the common texts: EP EQ ER. -/
import Derived.ChangeArms
import Derived.ChangeShapes
import Derived.ChangeSame
import Derived.Carry
import Derived.JoinedCond
import Derived.Test.YtppmlhanmdamfaaGreatDoorPart1
import Derived.Test.YtppmlhanmdamfaaGreatDoorPart2
set_option linter.all false
set_option maxRecDepth 100000
set_option maxHeartbeats 16000000

section
namespace Go.VC
open Go
def pickSt (ps:List Nat) (st:St):St:=match st with
 |⟨s,o⟩=>⟨pickS ps s,mapL (fun r=>pickO ps (getO o r)) ps⟩
def SubP (n0:Nat) (st st2:St):Prop:=∃ ps,(nodupL ps&&upTo n0 0 ps)=true∧Sub n0 (pickSt ps st) st2
section
variable {P:Program} {tt:TypeId→Option TI} {N n0:Nat} {B:Base} {E:List RI} {Pp:Per} {w:World} {st:St} {a:Act} {ps:List Nat}
theorem Sim.pick {ps:List Nat} (hb:B.E0.length=n0) (h:Sim tt N B E Pp st a w) (hok:(nodupL ps&&upTo n0 0 ps)=true):Sim tt N B (ps.map fun r=>E.getD r .row0) Pp (pickSt ps st) a w:=by
 simp only [Bool.and_eq_true] at hok
 have hnd:=nodupL_eq hok.1
 have hup:=upTo_ok hok.2
 obtain ⟨s,o⟩:=st
 refine ⟨h.wr.pick hnd,?_,h.size,h.defers,?_,h.per,h.fr,h.pnew,?_⟩
 ·intro t
  show VR tt _ Pp _ (look (pickS ps s) t)
  rw [pickS_look]
  exact pickP_ok (fun _ _ _=>pick_ix) 8 _ _ (h.slots t)
 ·intro i x hx
  have hi:i<n0:=by
   rw [← hb]
   exact (List.getElem?_eq_some_iff.1 hx).1
  have:=hup i hi
  rw [Nat.zero_add] at this
  rcases h.pre i x hx with h1|⟨b,n,c,n',c',rfl,h1⟩
  ·exact .inl (pick_E this h1)
  ·exact .inr ⟨b,n,c,n',c',rfl,pick_E this h1⟩
 ·intro i q ri b hq hl hEi hbk
  obtain ⟨r,o1,a1,a2,a3,a4⟩:=pick_blk h.wr hq hl hEi
  exact h.fresh r o1 ri b a2 a3 a4 hbk
theorem pick_own {ps:List Nat} {s:Slots} {o:List Ob} (hw:WR tt E Pp o w):∀ b,own (ps.map fun r=>E.getD r .row0) (pickSt ps ⟨s,o⟩).o b→own E o b:=by
 rintro b ⟨i,q,ri,h1,h2,h3,h4⟩
 obtain ⟨r,o',a1,a2,a3,a4⟩:=pick_blk hw h1 h2 h3
 exact ⟨r,o',ri,a2,a3,a4,h4⟩
theorem loop_ruleP {r:Option Nat} {α:Type} {c:Code} {Q:Ex→St→Prop} (I:α→St) (φ:α→Prop) (μ:α→Nat) (x0:α) (h0:φ x0) (hst:SubP n0 st (I x0))
  (round:∀ x,φ x→PWp P tt N n0 r c (I x) fun e st'=>match e with| .normal=>∃ x',φ x'∧μ x'<μ x∧SubP n0 st' (I x')| .exit i=>Q (.exit i) st'| .ret=>Q .ret st'):PWp P tt N n0 r (.loop c) st Q:=
 loop_gen (SubP n0) (fun {B E Pp st st2 a w} hb h hk=>by
  obtain ⟨ps,h1,h2⟩:=hk
  exact ⟨_,(h.pick hb h1).sub hb h2,fun b hb2=>pick_own h.wr b (h2.own b hb2)⟩) I φ μ x0 h0 hst round
theorem Ctx.loopP {G:Cfg} {A:Alg} {C:CallP} {L:Code→St→(Ex→St→Prop)→Prop} (X:Ctx P G A C L)
  {α:Type} (I:α→St) (φ:α→Prop) (μ:α→Nat) (x0:α) {c:Code} {st:St} {Q:Ex→St→Prop} (h0:φ x0) (hst:SubP G.n0 st (I x0))
  (round:∀ x,φ x→pwp A G C L c (I x) fun e st'=>match e with| .normal=>∃ x',φ x'∧μ x'<μ x∧SubP G.n0 st' (I x')| .exit i=>Q (.exit i) st'| .ret=>Q .ret st'):L (.loop c) st Q:=by
 obtain ⟨rfl,rfl,⟨r,_,rfl⟩,htt,hm⟩:=X
 exact loop_ruleP I φ μ x0 h0 hst fun x hx=>pwp_ok htt hm c _ _ (round x hx)
def hurtSt (F:List Nat) (st:St):St:=match st with
 |⟨s,o⟩=>⟨hurtS F o s,hurtO F 0 o⟩
def SubK (n0:Nat) (st st2:St):Prop:=∃ js F,SubP n0 (hurtSt F (sinks js st)) st2
theorem hurtO_own {F:List Nat} {o:List Ob} {b:Nat} (h:own E (hurtO F 0 o) b):own E o b:=by
 obtain ⟨i,q,ri,h1,h2,h3,h4⟩:=h
 rw [hurtO_get] at h1
 cases hx:o[i]? with
 |none=>rw [hx] at h1;simp at h1
 |some x=>
  rw [hx] at h1
  simp only [Option.map_some,Option.some.injEq] at h1
  refine ⟨i,x,ri,hx,?_,h3,h4⟩
  cases hm:memL (0+i) F<;>rw [hm] at h1<;>simp only [cond_true,cond_false] at h1
  ·rw [h1];exact h2
  ·subst h1;cases x<;>simp_all [hurt1,Ob.live]
theorem Sim.subK {st2:St} (hb:B.E0.length=n0) (h:Sim tt N B E Pp st a w) (hk:SubK n0 st st2):∃ E' Pp',Sim tt N B E' Pp' st2 a w∧∀ b,own E' st2.o b→own E st.o b:=by
 obtain ⟨js,F,ps,h1,h2⟩:=hk
 obtain ⟨Pp1,q1,q2,q3,q4⟩:=sinks_ok js h.toW h.slots
 generalize hst1:sinks js st=st1 at*
 obtain ⟨s1,o1⟩:=st1
 have q5:=q1.hurt F
 have q6:=hurtS_ok q1.wr (F:=F) q3
 have hs:=SimW.sim (st:=⟨hurtS F o1 s1,hurtO F 0 o1⟩) q5 q6 h.size h.defers
 exact ⟨_,_,(hs.pick hb h1).sub hb h2,fun b hb2=>q4 b (hurtO_own (pick_own hs.wr b (h2.own b hb2)))⟩
theorem loop_ruleK {r:Option Nat} {α:Type} {c:Code} {Q:Ex→St→Prop} (I:α→St) (φ:α→Prop) (μ:α→Nat) (x0:α) (h0:φ x0) (hst:SubK n0 st (I x0))
  (round:∀ x,φ x→PWp P tt N n0 r c (I x) fun e st'=>match e with| .normal=>∃ x',φ x'∧μ x'<μ x∧SubK n0 st' (I x')| .exit i=>Q (.exit i) st'| .ret=>Q .ret st'):PWp P tt N n0 r (.loop c) st Q:=by
 intro B E Pp a w hb hs
 obtain ⟨E1,Pp1,hs1,ho1⟩:=hs.subK hb hst
 refine wp_loop_g (fun x a' w'=>∃ E Pp,φ x∧Sim tt N (B.at a'.defers) E Pp (I x) a' w'∧Mk w a.defers E (I x).o a'.defers w'∧w.heap.size≤w'.heap.size) μ x0 ⟨E1,Pp1,h0,hs1.at,Mk.none rfl,Nat.le_refl _⟩ ?_
 rintro x a1 w1 ⟨E,Pp,hx,hs,hm,hz⟩
 refine wpIn_mono (round x hx (B.here E Pp (I x).o a1.defers w1) E Pp a1 w1 hb hs.here) ?_
 rintro e a2 w2 ⟨ex,st2,E2,Pp2,he,k,m2,sz2,q2⟩
 have hs2:=Sim.back (B:=B.at a1.defers) hs k
 have hm2:=Mk.trans hz hm k m2
 have hz2:=Nat.le_trans hz sz2
 cases e<;>cases ex<;>simp only [exOk] at he
 ·obtain ⟨x',h1,h2,h3⟩:=q2
  obtain ⟨E3,Pp3,hs3,ho⟩:=Sim.subK (B:=B.at a2.defers) hb hs2 h3
  exact ⟨x',⟨E3,Pp3,h1,hs3,hm2.sub ho,hz2⟩,h2⟩
 ·subst he;exact ⟨.exit _,st2,E2,Pp2,rfl,hs2,hm2,hz2,q2⟩
 ·exact ⟨.ret,st2,E2,Pp2,trivial,hs2,hm2,hz2,q2⟩
theorem Ctx.loopK {G:Cfg} {A:Alg} {C:CallP} {L:Code→St→(Ex→St→Prop)→Prop} (X:Ctx P G A C L)
  {α:Type} (I:α→St) (φ:α→Prop) (μ:α→Nat) (x0:α) {c:Code} {st:St} {Q:Ex→St→Prop} (h0:φ x0) (hst:SubK G.n0 st (I x0))
  (round:∀ x,φ x→pwp A G C L c (I x) fun e st'=>match e with| .normal=>∃ x',φ x'∧μ x'<μ x∧SubK G.n0 st' (I x')| .exit i=>Q (.exit i) st'| .ret=>Q .ret st'):L (.loop c) st Q:=by
 obtain ⟨rfl,rfl,⟨r,_,rfl⟩,htt,hm⟩:=X
 exact loop_ruleK I φ μ x0 h0 hst fun x hx=>pwp_ok htt hm c _ _ (round x hx)
theorem Ctx.cut {G:Cfg} {A:Alg} {C:CallP} {L:Code→St→(Ex→St→Prop)→Prop} (X:Ctx P G A C L)
  {α:Type} (I:α→St) (φ:α→Prop) {id:Nat} {ops:Array Oper} {d:Bool} {st:St} {Q:Ex→St→Prop}
  (h1:regP A G C id ops d st fun st'=>∃ x,φ x∧SubP G.n0 st' (I x)) (h2:∀ x,φ x→Q .normal (I x)):L (.region id ops d) st Q:=by
 obtain ⟨rfl,rfl,⟨r,_,rfl⟩,htt,hm⟩:=X
 intro B E Pp a w hb hs
 refine wpIn_mono (regP_ok htt hm id ops d st (fun e st'=>match e with| .normal=>∃ x,φ x∧SubP G.n0 st' (I x)|_=>False) h1 B E Pp a w hb hs) ?_
 rintro e a' w' ⟨ex,st',E',Pp',he,hs',hmk,hz,hq⟩
 cases ex<;>simp only at hq
 obtain ⟨x,h3,ps,h4,h5⟩:=hq
 exact ⟨.normal,I x,_,Pp',he,(Sim.pick (B:=B.at a'.defers) hb hs' h4).sub (B:=B.at a'.defers) hb h5,hmk.sub (fun b hb2=>pick_own hs'.wr b (h5.own b hb2)),hz,h2 x h3⟩
end
end Go.VC
end

section
namespace Go.VC
open Go
/-! ### rows that are handed are taken over: they lie behind,by numbers of the callee's own -/
def rowIxs:List Ob→Nat→List Nat
 |[],_=>[]
 | .row _ _ _::l,i=>i::rowIxs l (i+1)
 |_::l,i=>rowIxs l (i+1)
def mvF (R:List Nat) (n j:Nat):Nat:=match ixOf R n j with|some k=>k|none=>j
def mv1 (f:Nat→Nat):Ob→Ob
 | .row _ _ _=>.dead
 |o=>renO f o
def mvO (R:List Nat) (n:Nat) (objs:List Ob):List Ob:=appL (mapL (mv1 (mvF R n)) objs) (mapL (getO objs) R)
def liveStart (objs:List Ob) (args:List PV):St:=⟨initS 0 (mapL (renP (mvF (rowIxs objs 0) (lenL objs)) 8) args),mvO (rowIxs objs 0) (lenL objs) objs⟩
def iotaL:Nat→Nat→List Nat
 |0,_=>[]
 |n+1,k=>k::iotaL n (k+1)
def refsO:Ob→List Nat
 | .box cs=>catL (refs1 8) cs
 | .loop _ _ _ _ s _=>catL (fun (x:Nat×PV)=>refs1 8 x.2) s
 |_=>[]
def keepL (n0:Nat) (st:St) (v:PV):List Nat:=reach st.o 64 (appL (refs1 8 v) (catL (fun i=>refsO (getO st.o i)) (iotaL n0 0))) (iotaL n0 0)
def outK (n0:Nat) (v:PV) (o:List Ob) (ps:List Nat) (K:PV→List Ob→Prop):Prop:=
 bif nodupL ps&&upTo n0 0 ps then K (pickP ps 8 v) (mapL (fun r=>pickO ps (getO o r)) ps) else False
def retLiveK (G:Cfg) (n0:Nat) (rs:List ResultVar) (st:St) (K:PV→List Ob→Prop):Prop:=match resOf G st rs with
 |some v=>outK n0 v st.o (keepL n0 st v) K
 |none=>False
section
variable {P:Program} {tt:TypeId→Option TI} {G:Cfg} {N:Nat} {B:Base} {E:List RI} {Pp:Per} {objs:List Ob} {w:World} {st:St} {a:Act}
theorem rowIxs_mem:∀ (l:List Ob) (k r:Nat),r∈rowIxs l k↔∃ i e d wr,r=k+i∧l[i]? =some (.row e d wr)
 |[],k,r=>by simp [rowIxs]
 |o::l,k,r=>by
  have ih:=rowIxs_mem l (k+1) r
  have key:(∃ i e d wr,r=k+i∧(o::l)[i]? =some (.row e d wr))↔((∃ e d wr,r=k∧o= .row e d wr)∨∃ i e d wr,r=k+1+i∧l[i]? =some (.row e d wr)):=by
   constructor
   ·rintro ⟨i,e,d,wr,h1,h2⟩
    cases i with
    |zero=>exact .inl ⟨e,d,wr,h1,by simpa using h2⟩
    |succ i=>exact .inr ⟨i,e,d,wr,by omega,by simpa using h2⟩
   ·rintro (⟨e,d,wr,h1,h2⟩|⟨i,e,d,wr,h1,h2⟩)
    ·exact ⟨0,e,d,wr,h1,by simp [h2]⟩
    ·exact ⟨i+1,e,d,wr,by omega,by simpa using h2⟩
  rw [key,←ih]
  cases o<;>simp [rowIxs]
theorem rowIxs_low:∀ (l:List Ob) (k r:Nat),r∈rowIxs l k→k≤r:=by
 intro l k r h
 obtain ⟨i,_,_,_,h1,_⟩:=(rowIxs_mem l k r).1 h
 omega
theorem rowIxs_nodup:∀ (l:List Ob) (k:Nat),(rowIxs l k).Nodup
 |[],_=>List.nodup_nil
 |o::l,k=>by
  have ih:=rowIxs_nodup l (k+1)
  cases o<;>simp only [rowIxs]<;>first|exact ih|skip
  rw [List.nodup_cons]
  exact ⟨fun h=>by have:=rowIxs_low l (k+1) k h;omega,ih⟩
theorem WR.mv (hw:WR tt E Pp objs w):∃ E1,Eok E E1∧(∀ (i:Nat) x,E[i]? =some x→E1[mvF (rowIxs objs 0) (lenL objs) i]? =some x)∧WR tt E1 Pp (mvO (rowIxs objs 0) (lenL objs) objs) w∧
  ∀ b,own E1 (mvO (rowIxs objs 0) (lenL objs) objs) b→own E objs b:=by
 generalize hR:rowIxs objs 0=R
 have hRnd:R.Nodup:=hR▸rowIxs_nodup objs 0
 have hRrow:∀ r∈R,∃ e d wr,objs[r]? =some (.row e d wr):=by
  intro r hr
  rw [← hR] at hr
  obtain ⟨i,e,d,wr,h1,h2⟩:=(rowIxs_mem objs 0 r).1 hr
  rw [h1,Nat.zero_add]
  exact ⟨e,d,wr,h2⟩
 have hRall:∀ i e d wr,objs[i]? =some (.row e d wr)→i∈R:=by
  intro i e d wr h
  rw [← hR]
  exact (rowIxs_mem objs 0 i).2 ⟨i,e,d,wr,by omega,h⟩
 have hl:=hw.len
 rw [lenL_eq]
 have hE1:∀ (i:Nat) x,E[i]? =some x→(E++R.map fun r=>E.getD r .row0)[i]? =some x:=fun i x h=>app_left h
 have hE2:∀ (k r:Nat) x,R[k]? =some r→E[r]? =some x→(E++R.map fun r=>E.getD r .row0)[objs.length+k]? =some x:=by
  intro k r x hk hx
  rw [← hl]
  exact app_right (pick_E hk hx)
 have hf:∀ (i:Nat) x,E[i]? =some x→(E++R.map fun r=>E.getD r .row0)[mvF R objs.length i]? =some x:=by
  intro i x hx
  unfold mvF
  split
  ·rename_i k hk
   obtain ⟨j,rfl,hj⟩:=ixOf_some hk
   exact hE2 j i x hj hx
  ·exact hE1 i x hx
 have cases3:∀ (i:Nat) o,(mvO R objs.length objs)[i]? =some o→o.live=true→(i<objs.length∧∃ o',objs[i]? =some o'∧o'.live=true∧(∀ e d wr,o'≠ .row e d wr)∧o=renO (mvF R objs.length) o')∨
   ∃ k r,i=objs.length+k∧R[k]? =some r∧objs[r]? =some o∧∃ e d wr,o= .row e d wr:=by
  intro i o ho hlv
  unfold mvO at ho
  rw [appL_eq] at ho
  rcases app_get ho with ⟨h1,h2⟩|⟨k,h1,h2⟩
  ·rw [mapL_eq,List.length_map] at h1
   rw [mapL_eq,List.getElem?_map] at h2
   cases hx:objs[i]? with
   |none=>rw [hx] at h2;simp at h2
   |some o'=>
    rw [hx] at h2
    simp only [Option.map_some,Option.some.injEq] at h2
    refine .inl ⟨h1,o',rfl,?_⟩
    cases o'<;>simp only [mv1] at h2<;>subst h2<;>first|(simp [renO,Ob.live] at hlv;done)|exact ⟨rfl,(fun _ _ _ h=>by cases h),rfl⟩
  ·rw [mapL_eq,List.length_map] at h1
   rw [mapL_eq,List.getElem?_map] at h2
   cases hx:R[k]? with
   |none=>rw [hx] at h2;simp at h2
   |some r=>
    rw [hx] at h2
    simp only [Option.map_some,Option.some.injEq] at h2
    obtain ⟨e,d,wr,hr⟩:=hRrow r (List.mem_of_getElem? hx)
    have hg:getO objs r= .row e d wr:=by rw [getO_eq];simp [List.getD,hr]
    rw [hg] at h2;subst h2
    exact .inr ⟨k,r,h1,hx,hr,e,d,wr,rfl⟩
 -- where it lay
 have src:∀ (i:Nat) o ri,(mvO R objs.length objs)[i]? =some o→o.live=true→(E++R.map fun r=>E.getD r .row0)[i]? =some ri→∃ j o',objs[j]? =some o'∧o'.live=true∧E[j]? =some ri∧
   ((i=j∧i<objs.length∧∀ e d wr,o'≠ .row e d wr)∨∃ k e d wr,i=objs.length+k∧R[k]? =some j∧o'= .row e d wr):=by
  intro i o ri ho hlv hri
  rcases cases3 i o ho hlv with ⟨h1,o',h2,h3,h4,_⟩|⟨k,r,rfl,h2,h3,e,d,wr,rfl⟩
  ·obtain ⟨ri',hri',_⟩:=hw.ob i o' h2 h3
   have:=hE1 i ri' hri'
   rw [hri] at this;cases this
   exact ⟨i,o',h2,h3,hri',.inl ⟨rfl,h1,h4⟩⟩
  ·obtain ⟨ri',hri',_⟩:=hw.ob r _ h3 rfl
   have:=hE2 k r ri' h2 hri'
   rw [hri] at this;cases this
   exact ⟨r,_,h3,rfl,hri',.inr ⟨k,e,d,wr,rfl,h2,rfl⟩⟩
 refine ⟨E++R.map fun r=>E.getD r .row0,.of hE1,hf,⟨?_,hw.pi,?_,?_,hw.gl⟩,?_⟩
 ·simp [mvO,appL_eq,mapL_eq,hl]
 ·intro i o ho hlv
  rcases cases3 i o ho hlv with ⟨h1,o',h2,h3,h4,rfl⟩|⟨k,r,rfl,h2,h3,e,d,wr,rfl⟩
  ·obtain ⟨ri,hri,hor⟩:=hw.ob i o' h2 h3
   exact ⟨ri,hE1 i ri hri,OR.renO hf hlv hor⟩
  ·obtain ⟨ri,hri,hor⟩:=hw.ob r _ h3 rfl
   exact ⟨ri,hE2 k r ri h2 hri,hor.goes rfl rfl⟩
 ·intro i j oi oj ri rj b hi hj hli hlj hEi hEj hbi hbj
  obtain ⟨i',oi',h1,h2,h3,h4⟩:=src i oi ri hi hli hEi
  obtain ⟨j',oj',k1,k2,k3,k4⟩:=src j oj rj hj hlj hEj
  have:=hw.sep i' j' oi' oj' ri rj b h1 k1 h2 k2 h3 k3 hbi hbj
  subst this
  rw [h1] at k1;cases k1
  rcases h4 with ⟨rfl,_,h5⟩|⟨k,e,d,wr,rfl,h6,rfl⟩<;>rcases k4 with ⟨rfl,_,k5⟩|⟨k',e',d',wr',rfl,k6,e1⟩
  ·rfl
  ·exact absurd e1 (h5 _ _ _)
  ·exact absurd rfl (k5 _ _ _)
  ·rw [nodup_idx' hRnd h6 k6]
 ·rintro b ⟨i,o,ri,h1,h2,h3,h4⟩
  obtain ⟨j,o',k1,k2,k3,_⟩:=src i o ri h1 h2 h3
  exact ⟨j,o',ri,k1,k2,k3,h4⟩
 where nodup_idx' {l:List Nat} (h:l.Nodup) {i j x:Nat} (hi:l[i]? =some x) (hj:l[j]? =some x):i=j:=
 (List.getElem?_inj (List.getElem?_eq_some_iff.1 hi).1 h).1 (hi.trans hj.symm)
theorem startL {fn:Func} (hN:fn.ntmps=G.n) {args:List PV} (hlen:nle (lenL args) G.n=true):∀ E Pp w vals,WR G.tt E Pp objs w→VRL G.tt E Pp vals args→∃ E1,Sim G.tt G.n { w0:=w,E0:=E,P0:=Pp,own0:=own E objs } E1 Pp (liveStart objs args) ⟨(⟨vals⟩:Array Value)++Array.replicate (fn.ntmps-(⟨vals⟩:Array Value).size) undef,[]⟩ w:=by
 intro E Pp w vals hw hv
 have hll:=hv.length
 rw [lenL_eq] at hlen
 have hle:=nle_of hlen
 obtain ⟨E1,h1,h2,h3,h4⟩:=hw.mv
 exact ⟨E1,h3,initS_ok (renPs_ok h2 hv),by simp;omega,rfl,h1,fun _ _ h=>h,Fr.refl _ _,fun ad v h=>.inl h,fun i o ri b q1 q2 q3 q4=>.inr (h4 b ⟨i,o,ri,q1,q2,q3,q4⟩)⟩
theorem outK_ok {v:Value} {pv:PV} {E':List RI} {Pp':Per} {w':World} {o':List Ob} {d:List Deferred} {s':Slots} {a':Act} {ps:List Nat} {K:PV→List Ob→Prop} (hw:WR tt E Pp objs w)
  (hs:Sim tt N { w0:=w,E0:=E,P0:=Pp,own0:=own E objs,d0:=d } E' Pp' ⟨s',o'⟩ a' w') (hv:VR tt E' Pp' v pv) (h:outK objs.length pv o' ps K):FCPost tt E Pp objs w K (.returned v) w':=by
 unfold outK at h
 cases hb:(nodupL ps&&upTo objs.length 0 ps) with
 |false=>rw [hb] at h;exact h.elim
 |true=>
  rw [hb] at h
  have hp:=hs.pick (n0:=objs.length) hw.len hb
  simp only [Bool.and_eq_true] at hb
  exact ⟨v,_,Pp',_,_,rfl,hp.pre,hp.per,hp.wr,pickP_ok (fun _ _ _=>pick_ix) 8 _ _ hv,h,hp.fr,hp.pnew,hp.fresh⟩
theorem FC.enterLive {G:Cfg} (htt:TtOk P G.tt) (hm:P.follows .mixedOrders=true) {f:FuncId} {fn:Func} {c:Code} (hf:Has P f fn c) (hN:fn.ntmps=G.n) {objs:List Ob} (hn0:lenL objs=G.n0) {args:List PV} (hlen:nle (lenL args) G.n=true) {K:PV→List Ob→Prop}
  (h:∀ (A:Alg) (C:CallP) (L:Code→St→(Ex→St→Prop)→Prop),Ctx P G A C L→
   pwp A G C L c (liveStart objs args) fun e st=>match e with| .exit _=>False|_=>retLiveK G G.n0 fn.results.toList st K):FC P G.tt f objs args K:=by
 rw [lenL_eq] at hn0
 refine FC_gen htt hm hf.name hf.f hf.b hn0 _ (startL hN hlen) (h _ _ _ ⟨rfl,rfl,⟨_,fun _=>rfl,rfl⟩,htt,hm⟩) ?_
 intro E Pp w E' Pp' st' a' w' d hw hr hs'
 unfold retLiveK at hr
 split at hr
 ·rename_i p hp
  obtain ⟨v,h1,h2⟩:=resOf_ok htt hs' hp
  rw [← hn0] at hr
  exact ⟨v,h1,outK_ok hw (s':=st'.s) (o':=st'.o) hs' h2 hr⟩
 ·exact hr.elim
/-! ### rounds -/
def setArgs:Slots→List Nat→List PV→Slots
 |s,t::ts,p::ps=>setArgs ((t,p)::s) ts ps
 |s,_,_=>s
def roundStart (s:Slots) (ps:List Nat) (objs:List Ob) (args:List PV):St:=
 ⟨setArgs (renS (mvF (rowIxs objs 0) (lenL objs)) s) ps (mapL (renP (mvF (rowIxs objs 0) (lenL objs)) 8) args),mvO (rowIxs objs 0) (lenL objs) objs⟩
def setLoop (st:St) (j:LS) (j':LS) (K:St→Prop):Prop:=match getO st.o 0 with
 | .loop n ps c1 c2 s i=>(match i,j with
  | .ready,.ready=>K ⟨st.s,setO st.o 0 (.loop n ps c1 c2 s j')⟩
  | .busy,.busy=>K ⟨st.s,setO st.o 0 (.loop n ps c1 c2 s j')⟩
  |_,_=>False)
 |_=>False
def roundEnd (n0:Nat) (e:Ex) (st:St) (K:PV→List Ob→Prop):Prop:=match e with
 | .normal=>setLoop st .busy .ready fun st=>outK n0 (.bl true) st.o (keepL n0 st (.bl true)) K
 | .ret=>setLoop st .busy (.done .ret) fun st=>outK n0 (.bl false) st.o (keepL n0 st (.bl false)) K
 | .exit id=>setLoop st .busy (.done (.exit id)) fun st=>outK n0 (.bl false) st.o (keepL n0 st (.bl false)) K
def allLtL (n:Nat):List Nat→Bool
 |[]=>true
 |x::l=>nlt x n&&allLtL n l
theorem setArgs_ok {E:List RI} {Pp:Per}:∀ (ps:List Nat) (args:List PV) (vals:List Value) (tmps:Array Value) (s:Slots),(∀ t,VR tt E Pp (tmps.getD t undef) (look s t))→VRL tt E Pp vals args→ps.length=args.length→(∀ t∈ps,t<tmps.size)→
  (∀ t,VR tt E Pp (((ps.zip vals).foldl (fun (tmps:Array Value) (x:Nat×Value)=>tmps.setIfInBounds x.1 x.2) tmps).getD t undef) (look (setArgs s ps args) t))∧((ps.zip vals).foldl (fun (tmps:Array Value) (x:Nat×Value)=>tmps.setIfInBounds x.1 x.2) tmps).size=tmps.size
 |[],[],_,tmps,s,hs,hv,_,_=>by cases hv;exact ⟨hs,rfl⟩
 |p::ps,q::args,_,tmps,s,hs,hv,hl,hlt=>by
  cases hv with
  |cons v _ vals _ hv1 hv2=>
   have hp:=hlt p (by simp)
   have:=setArgs_ok ps args vals (tmps.setIfInBounds p v) ((p,q)::s) (by
    intro t
    rw [look_cons]
    simp only [Array.getD_eq_getD_getElem?,Array.getElem?_setIfInBounds]
    split
    ·rename_i e;subst e;simp [hp];exact hv1
    ·rename_i e;simpa only [Array.getD_eq_getD_getElem?] using hs t) hv2 (by simpa using hl) (fun t ht=>by simpa using hlt t (by simp [ht]))
   refine ⟨this.1,this.2.trans (by simp)⟩
 |[],_::_,_,_,_,_,_,h,_=>by simp at h
 |_::_,[],_,_,_,_,_,h,_=>by simp at h
theorem Sim.setLoop {B:Base} {w:World} {j j':LS} {K:St→Prop} (h:Sim tt N B E Pp st a w) (hc:VC.setLoop st j j' K):∃ (l:Nat) (r:Loop) (st':St),E[0]? =some (.loop l)∧w.heap[l]? =some (.loop r)∧K st'∧st'.s=st.s∧
  LSnow j r.state∧∀ (s2:LoopState) (p2:Option Code),LSok j' s2 p2→Sim tt N B E Pp st' a (w.putObj l (.loop { r with state:=s2,pending:=p2 })):=by
 unfold VC.setLoop at hc
 split at hc
 ·rename_i n ps c1 c2 s i hob
  have hob':=getO_live hob rfl
  obtain ⟨ri,hri,hor⟩:=h.wr.ob 0 _ hob' rfl
  cases ri<;>try exact hor.elim
  rename_i l
  obtain ⟨r,h1,h2,h3⟩:=hor
  have hjK:LSnow j r.state∧K ⟨st.s,setO st.o 0 (.loop n ps c1 c2 s j')⟩:=by
   split at hc
   ·exact ⟨h2.state.1,hc⟩
   ·exact ⟨h2.state,hc⟩
   ·exact hc.elim
  refine ⟨l,r,⟨st.s,setO st.o 0 (.loop n ps c1 c2 s j')⟩,hri,h1,hjK.2,rfl,hjK.1,?_⟩
  ·intro s2 p2 hst2
   generalize hr2:({ r with state:=s2,pending:=p2 }:Loop)=r2
   have hlt:l<w.heap.size:=by
    rcases Nat.lt_or_ge l w.heap.size with h'|h'
    ·exact h'
    ·simp [Array.getElem?_eq_none h'] at h1
   have hl0:=lt_of_get hob'
   have same:∀ k,k≠l→(w.putObj l (.loop r2)).heap[k]? =w.heap[k]? :=fun k hk=>World.putObj_heap_other hk
   refine SimW.sim (st:=⟨st.s,setO st.o 0 (.loop n ps c1 c2 s j')⟩) ?_ h.slots h.size h.defers
   simp only [setO_eq]
   refine h.toW.turn hob' rfl hri rfl (fun _ _=>rfl) hri (.inl (.refl _)) (by simp) ?_ (by rw [List.getElem?_set_self hl0]) (fun _=> ?_) rfl rfl rfl (by simp [World.putObj]) ?_ (fun _ _ h=>h) (fun _ _ h=>.inl h) (fun _ hb=>.inl hb) ?_
   ·intro j oj hj hoj hlv
    rw [List.getElem?_set_ne (Ne.symm hj)] at hoj
    exact ⟨oj,hoj,hlv,fun _ _ h=>h⟩
   ·refine ⟨r2,World.putObj_heap_same hlt,?_,?_⟩
    ·rw [← hr2]
     exact ⟨h2.size,h2.params,h2.assign,h2.body,hst2⟩
    ·rw [← hr2];exact h3
   ·intro b _ hne
    exact same b (fun e=>hne (by rw [e];rfl))
   ·intro ad v hv
    have hc:=h.wr.pi ad v hv
    rw [pc_same (same ad.block ?_)]
    ·exact hc
    ·intro e;simp [pc,e,h1] at hc
 ·exact hc.elim
theorem YC.enter {G:Cfg} (htt:TtOk P G.tt) (hm:P.follows .mixedOrders=true) (hrnd:G.rnd=true) {n:Nat} {ps:List Nat} {c1 c2:Code} {s:Slots} {os:List Ob} {args:List PV} {K:PV→List Ob→Prop} (hN:nb n G.n=true) (hn0:nb (lenL os+1) G.n0=true) (hlen:nb (lenL args) (lenL ps)=true) (hlt:allLtL n ps=true)
  (h:∀ (A:Alg) (C:CallP) (L:Code→St→(Ex→St→Prop)→Prop),Ctx P G A C L→
   pwp A G C L c1 (roundStart s ps (.loop n ps c1 c2 s .ready::os) args) fun e st=>match e with
    | .normal=>setLoop st .ready .busy fun st=>pwp A G C L c2 st fun e st=>roundEnd G.n0 e st K
    |_=>False):YC P G.tt (.loop n ps c1 c2 s .ready::os) args K:=by
 intro E Pp w vals l rec hw hE hrec hv
 obtain ⟨ri,hri,hor⟩:=hw.ob 0 _ rfl rfl
 rw [hE] at hri;cases hri
 obtain ⟨rec',h1,h2,h3⟩:=hor
 rw [hrec] at h1;cases h1
 have hN:=nb_of hN
 have hn0:=nb_of hn0
 have hlen:=nb_of hlen
 rw [lenL_eq] at hn0
 rw [lenL_eq,lenL_eq] at hlen
 have hpl:ps.length=rec.params.size:=by rw [← h2.params];simp
 have hvl:=hv.length
 refine ⟨by omega,?_⟩
 obtain ⟨E1,q1,q2,q3,q4⟩:=hw.mv
 have hlts:∀ (l:List Nat),allLtL n l=true→∀ t∈l,t<n:=by
  intro l
  induction l with
  |nil=>intro _ t ht;simp at ht
  |cons x l ih=>
   intro h t ht
   simp only [allLtL,Bool.and_eq_true] at h
   rcases List.mem_cons.1 ht with rfl|ht
   ·exact nle_of h.1
   ·exact ih h.2 t ht
 have hsa:=setArgs_ok (tt:=G.tt) (E:=E1) (Pp:=Pp) ps (mapL (renP (mvF (rowIxs (.loop n ps c1 c2 s .ready::os) 0) (lenL (.loop n ps c1 c2 s .ready::os))) 8) args) vals rec.tmps (renS (mvF (rowIxs (.loop n ps c1 c2 s .ready::os) 0) (lenL (.loop n ps c1 c2 s .ready::os))) s)
  (fun t=>by rw [renS_look];exact renP_ok q2 8 _ _ (h3 t)) (renPs_ok q2 hv) (by rw [mapL_length];omega) (fun t ht=>by rw [h2.size];exact hlts ps hlt t ht)
 have hfold:(rec.params.zip (⟨vals⟩:Array Value)).foldl (fun tmps (t,a)=>tmps.setIfInBounds t a) rec.tmps=(ps.zip vals).foldl (fun (tmps:Array Value) (x:Nat×Value)=>tmps.setIfInBounds x.1 x.2) rec.tmps:=by
  rw [← Array.foldl_toList,Array.toList_zip,h2.params]
 rw [hfold]
 obtain ⟨rfl,rfl⟩:rec.assign=c1∧rec.body=c2:=⟨h2.assign,h2.body⟩
 refine roundIn_of_wpIn trivial ?_
 have hs0:Sim G.tt G.n { w0:=w,E0:=E,P0:=Pp,own0:=own E (.loop n ps rec.assign rec.body s .ready::os) } E1 Pp (roundStart s ps (.loop n ps rec.assign rec.body s .ready::os) args) ⟨(ps.zip vals).foldl (fun (tmps:Array Value) (x:Nat×Value)=>tmps.setIfInBounds x.1 x.2) rec.tmps,[]⟩ w:=
  ⟨q3,hsa.1,by rw [hsa.2,h2.size,hN],rfl,q1,fun _ _ h=>h,Fr.refl _ _,fun ad v h=>.inl h,fun i o ri b r1 r2 r3 r4=>.inr (q4 b ⟨i,o,ri,r1,r2,r3,r4⟩)⟩
 have hb0:E.length=G.n0:=by rw [hw.len];simp;omega
 have hX:Ctx P G Std (FCx P G.tt) (fun c st Q=>PWp P G.tt G.n G.n0 (some l) c st Q):=⟨rfl,rfl,⟨some l,(fun h=>by rw [hrnd] at h;cases h),rfl⟩,htt,hm⟩
 have hE0:∀ {B:Base} {E':List RI} {Pp':Per} {st':St} {a':Act} {w':World},B.E0=E→Sim G.tt G.n B E' Pp' st' a' w'→E'[0]? =some (.loop l):=by
  intro B E' Pp' st' a' w' hB hs
  have:=hs.pre
  rw [hB] at this
  exact this.loop hE
 refine wpIn_mono (pwp_ok (r:=some l) htt hm _ _ _ (h _ _ _ hX) _ E1 Pp _ w hb0 hs0) ?_
 rintro e a1 w1 ⟨ex,st1,E2,Pp2,he,hs1,_,_,hq⟩
 cases e<;>cases ex<;>simp only [exOk] at he<;>try exact hq.elim
 obtain ⟨l1,r1,st1',b1,b2,b3,_,b5,b6⟩:=hs1.setLoop hq
 have:=hE0 rfl hs1
 rw [b1] at this;cases this
 refine ⟨_,run_beginRound b2 b5,?_⟩
 have hs2:=b6 .busy r1.pending rfl
 refine wpIn_mono (pwp_ok (r:=some l) htt hm _ _ _ b3 _ E2 Pp2 _ _ hb0 hs2.at) ?_
 rintro e a2 w2 ⟨ex,st2,E3,Pp3,he,hs3,_,_,hq3⟩
 have ending:∀ (j:LS) (jump:Option Code) (b:Bool),(match j with| .ready=>jump=none| .done c=>jump=some c| .busy=>False)→(b=jump.isNone)→setLoop st2 .busy j (fun st=>outK G.n0 (.bl b) st.o (keepL G.n0 st (.bl b)) K)→
   ∃ v w',(Instr.endRound l jump).run P w2= .ok v w'∧FCPost G.tt E Pp (.loop n ps rec.assign rec.body s .ready::os) w K (.returned v) w':=by
  intro j jump b hj hb hq
  subst hb
  obtain ⟨l2,r2,st2',d1,d2,d3,_,d5,d6⟩:=hs3.setLoop hq
  have:=hE0 rfl hs3
  rw [d1] at this;cases this
  refine ⟨_,_,run_endRound jump d2,?_⟩
  have hs4:=d6 (if jump.isNone then .ready else .done) jump (by
   cases j<;>simp only at hj
   ·subst hj;exact ⟨rfl,rfl⟩
   ·subst hj;exact ⟨rfl,rfl⟩)
  rw [← hb0,hw.len] at d3
  exact outK_ok hw (s':=st2'.s) (o':=st2'.o) hs4 (.bl _) d3
 cases e<;>cases ex<;>simp only [exOk] at he
 ·exact ending .ready none true rfl rfl hq3
 ·subst he;exact ending (.done (.exit _)) (some (.exit _)) false rfl rfl hq3
 ·exact ending (.done .ret) (some .ret) false rfl rfl hq3
theorem Ctx.round {G:Cfg} {A:Alg} {C:CallP} {L:Code→St→(Ex→St→Prop)→Prop} (X:Ctx P G A C L) {objs:List Ob} {args:List PV} {K:PV→List Ob→Prop} (h:YC P G.tt objs args K):C .yld objs args K:=by
 rw [X.c];exact h
/-! ### a range over a function -/
def rangeEnd (n:Nat) (st:St) (Q:Ex→St→Prop):Prop:=match getO st.o n with
 | .loop _ _ _ _ _ j=>(match j with
  | .ready=>Q .normal ⟨st.s,setO st.o n .dead⟩
  | .done .ret=>Q .ret ⟨st.s,setO st.o n .dead⟩
  | .done (.exit id)=>Q (.exit id) ⟨st.s,setO st.o n .dead⟩
  |_=>False)
 |_=>False
def rangeK (G:Cfg) (C:CallP) (f:FuncId) (caps:List PV) (ps:Array Tmp) (c1 c2:Code) (s2:Slots) (st:St) (Q:Ex→St→Prop):Prop:=
 liveC1 C (.fn f) (.yld (lenL st.o)::caps) st.s (appL st.o [.loop G.n ps.toList c1 c2 s2 .ready]) fun _ st'=>rangeEnd (lenL st.o) st' Q
theorem SimW.dropLoop {n:Nat} {l:Nat} {ob:Ob} {r2:Loop} (h:SimW tt B E Pp objs w) (ho:objs[n]? =some ob) (hE:E[n]? =some (.loop l)) (hl:ob.live=true):SimW tt B E Pp (objs.set n .dead) (w.putObj l (.loop r2)):=by
 obtain ⟨ri,hri,hor⟩:=h.wr.ob n _ ho hl
 rw [hE] at hri;cases hri
 have hob:∃ k ps c1 c2 s j,ob= .loop k ps c1 c2 s j:=by cases ob<;>first|exact ⟨_,_,_,_,_,_,rfl⟩|exact hor.elim
 obtain ⟨k,ps,c1,c2,s,j,rfl⟩:=hob
 obtain ⟨r,h1,_⟩:=hor
 have hln:=lt_of_get ho
 have same:∀ k,k≠l→(w.putObj l (.loop r2)).heap[k]? =w.heap[k]? :=fun k hk=>World.putObj_heap_other hk
 refine h.turn (o':=.dead) ho rfl hE rfl (fun _ _=>rfl) hE (.inl (.refl _)) (by simp) ?_ (by rw [List.getElem?_set_self hln]) (fun h=>by cases h) rfl rfl rfl (by simp [World.putObj]) ?_ (fun _ _ h=>h) (fun _ _ h=>.inl h) (fun _ hb=>.inl hb) ?_
 ·intro j oj hj hoj hlv
  rw [List.getElem?_set_ne (Ne.symm hj)] at hoj
  exact ⟨oj,hoj,hlv,fun _ _ h=>h⟩
 ·intro b _ hne
  exact same b (fun e=>hne (by rw [e];rfl))
 ·intro ad v hv
  have hc:=h.wr.pi ad v hv
  rw [pc_same (same ad.block ?_)]
  ·exact hc
  ·intro e;simp [pc,e,h1] at hc
theorem SimW.compose {w2:World} {E2:List RI} {Pp2:Per} {o2:List Ob} (h:SimW tt B E Pp objs w) (k:SimW tt { w0:=w,E0:=B.E0,P0:=Pp,own0:=own E objs } E2 Pp2 o2 w2):SimW tt B E2 Pp2 o2 w2:=by
 have fr1:∀ b,own E objs b→B.w0.heap.size≤b∨B.own0 b:=fun b ⟨i,o,ri,h1,h2,h3,h4⟩=>h.fresh i o ri b h1 h2 h3 h4
 refine ⟨k.wr,k.pre,fun ad v hv=>k.per ad v (h.per ad v hv),?_,?_,?_⟩
 ·refine h.fr.trans k.fr (fun x hx ho=> ?_)
  have hx:x<B.w0.heap.size:=hx
  rcases fr1 x ho with h1|h1
  ·omega
  ·exact h1
 ·intro ad v hv
  rcases k.pnew ad v hv with h1|h1|h1
  ·exact h.pnew ad v h1
  ·exact .inr (.inl (Nat.le_trans h.fr.size h1))
  ·exact .inr (fr1 _ h1)
 ·intro i o ri b h1 h2 h3 h4
  rcases k.fresh i o ri b h1 h2 h3 h4 with h5|h5
  ·exact .inl (Nat.le_trans h.fr.size h5)
  ·exact fr1 _ h5
theorem rangeFn_ok {g:Operand} {ps:Array Tmp} {c1 c2:Code} {Q:Ex→St→Prop} {f:FuncId} {fn:Func} {code:Code} {caps:List PV} (hg:ev st.s g= .clos f caps) (hf:Has P f fn code) (hfb:nlt f bndM=true) {s2:Slots} (hs2:subS st.s s2)
  (hk:rangeK G (FCx P G.tt) f caps ps c1 c2 s2 st Q):PWp P G.tt G.n G.n0 none (.rangeFunc g ps c1 c2) st Q:=by
 intro B E Pp a w hb hs
 have hgv:=ev_ok hs.slots g
 rw [hg] at hgv
 generalize hge:a.eval g=vg at hgv
 cases hgv with
 |clos _ _ vs _ hu hcaps=>
 obtain rfl:=hu.get hfb
 have hlen:=hs.wr.len
 refine wpIn_rangeFunc (F:=fen none) fun fn0 _=> ?_
 generalize hrec:({ state:=.ready,pending:=none,fn:=fn0,tmps:=a.tmps,params:=ps,assign:=c1,body:=c2,defers:=w.heap.size }:Loop)=rec
 generalize hw1:(w.alloc (.deferred (some []))).alloc (.loop rec)=w1
 have hsz1:w1.heap.size=w.heap.size+2:=by rw [← hw1];simp
 have hb0:w1.heap[w.heap.size]? =some (.deferred (some [])):=by
  rw [← hw1,RowKit.Below.heap_alloc _ _ _ (by simp)]
  exact heap_alloc_at w _
 have hl0:w1.heap[w.heap.size+1]? =some (.loop rec):=by
  have:=heap_alloc_at (w.alloc (.deferred (some []))) (.loop rec)
  rw [hw1] at this
  simpa using this
 -- the loop is an object of ours
 have hE1g:∀ (i:Nat) x,E[i]? =some x→(E++[RI.loop (w.heap.size+1)])[i]? =some x:=mem_push
 have h1:SimW G.tt B (E++[.loop (w.heap.size+1)]) Pp (st.o++[.loop G.n ps.toList c1 c2 s2 .ready]) w1:=by
  have ha:=hs.toW.alloc (.deferred (some []))
  have:=ha.new (x:=.loop rec) (ri:=.loop (w.heap.size+1)) (o:=.loop G.n ps.toList c1 c2 s2 .ready) (by simp [RI.block?]) ?_
  ·rw [hw1] at this;exact this
  ·refine ⟨rec,?_,?_,?_⟩
   ·rw [hw1];exact hl0
   ·subst hrec;exact ⟨hs.size,rfl,rfl,rfl,rfl,rfl⟩
   ·intro t
    have:rec.tmps=a.tmps:=by subst hrec;rfl
    rw [this]
    exact pvLe_ok (subS_look hs2 t) ((hs.slots t).mono hE1g (fun _ _ h=>h))
 have hslots1:∀ t,VR G.tt (E++[.loop (w.heap.size+1)]) Pp (a.tmps.getD t undef) (look st.s t):=fun t=>(hs.slots t).mono hE1g (fun _ _ h=>h)
 have hEn:(E++[RI.loop (w.heap.size+1)])[st.o.length]? =some (.loop (w.heap.size+1)):=by rw [← hlen];simp
 have hv:VRL G.tt (E++[.loop (w.heap.size+1)]) Pp (.func (.yield (w.heap.size+1)) #[] #[]::vs) (.yld (lenL st.o)::caps):=
  .cons _ _ _ _ (.yld _ _ (by rw [lenL_eq];exact hEn)) (hcaps.mono hE1g (fun _ _ h=>h))
 -- the call
 unfold rangeK liveC1 at hk
 rw [appL_eq] at hk
 generalize hF:reach (st.o++[.loop G.n ps.toList c1 c2 s2 .ready]) 64 (catL (refs1 8) (.yld (lenL st.o)::caps)) []=F at hk
 unfold liveC2 at hk
 cases hbF:(nodupL F&&allL (fun r=>nlt r (lenL (st.o++[.loop G.n ps.toList c1 c2 s2 .ready]))) F) with
 |false=>rw [hbF] at hk;exact hk.elim
 |true=>
 rw [hbF] at hk
 simp only [Bool.and_eq_true,lenL_eq] at hbF
 have hbase:SimW G.tt { w0:=w1,E0:=B.E0,P0:=Pp,own0:=own (E++[.loop (w.heap.size+1)]) (st.o++[.loop G.n ps.toList c1 c2 s2 .ready]) } (E++[.loop (w.heap.size+1)]) Pp (st.o++[.loop G.n ps.toList c1 c2 s2 .ready]) w1:=
  ⟨h1.wr,h1.pre,fun _ _ h=>h,Fr.refl _ _,fun _ _ h=>.inl h,fun i o ri b q1 q2 q3 q4=>.inr ⟨i,o,ri,q1,q2,q3,q4⟩⟩
 have hl:=live_ok (st:=st) (a:=a) (K:=fun _ st'=>rangeEnd (lenL st.o) st' Q) hbase hslots1 hv (nodupL_eq hbF.1) (allLt hbF.2)
 have hcall:=hk _ _ w1 (.func (.yield (w.heap.size+1)) #[] #[]::vs) hl.1 hl.2.1
 rcases hcall with ⟨_,hcalls⟩|⟨v,w',hrun,_⟩
 case inr=>rw [enter_run hf.f hf.b hf.name] at hrun;cases hrun
 refine ⟨w.heap.size+1,[mkD w.heap.size],w1,{ target:=.fn (.func f) ⟨vs⟩,args:= #[.func (.yield (w.heap.size+1)) #[] #[]] },w1,f,⟨.func (.yield (w.heap.size+1)) #[] #[]::vs⟩,w1,?_,?_,fun _ _=>trivial,?_,fun h=>by simp [fen,Fence.wide] at h,?_⟩
 ·have:=run_enterLoop_outer (P:=P) (w:=w) fn0 a.tmps ps c1 c2
  rw [hrec,hw1] at this
  exact this
 ·have he:(#[Operand.const (.func (.yield (w.heap.size+1)) #[] #[])]:Array Operand).map a.eval= #[.func (.yield (w.heap.size+1)) #[] #[]]:=by simp [Act.eval]
  simp [resolve,rangeCall,hge,Deferred.ofValue,he]
 ·have:=enter_run (w:=w1) (vals:=.func (.yield (w.heap.size+1)) #[] #[]::vs) hf.f hf.b hf.name
  simpa [invoke] using this
 ·refine (callsIn_fen hcalls).mono ?_
  intro e w3 hq
  obtain ⟨v,pv,s',o',E',Pp',rfl,_,q3,q4,q5,q6,q7,q8⟩:=hl.2.2 e w3 hq
  -- the loop's record stands where it stood
  have hcomp:SimW G.tt B E' Pp' o' w3:=h1.compose q4
  have hEn':E'[st.o.length]? =some (.loop (w.heap.size+1)):=q7.loop hEn
  have hb3:w3.heap[w.heap.size]? =some (.deferred (some []))∧¬own E' o' w.heap.size:=by
   have hno:¬own (E++[.loop (w.heap.size+1)]) (st.o++[.loop G.n ps.toList c1 c2 s2 .ready]) w.heap.size:=by
    rintro ⟨i,o,ri,r1,r2,r3,r4⟩
    rcases app_get r1 with ⟨t1,t2⟩|⟨j,rfl,t2⟩
    ·rw [List.getElem?_append_left (by omega)] at r3
     have:=own_lt hs.wr ⟨i,o,ri,t2,r2,r3,r4⟩
     omega
    ·cases j with
     |zero=>
      simp only [Nat.add_zero] at r3
      rw [hEn] at r3
      cases r3
      simp only [RI.block?,Option.some.injEq] at r4
      omega
     |succ j=>simp at t2
   refine ⟨(q4.fr.block _ (by show w.heap.size<w1.heap.size;omega) hno).trans hb0,?_⟩
   rintro ⟨i,o,ri,r1,r2,r3,r4⟩
   rcases q4.fresh i o ri _ r1 r2 r3 r4 with r5|r5
   ·have r5:w1.heap.size≤w.heap.size:=r5
    omega
   ·exact hno r5
  unfold rangeEnd at q5
  rw [lenL_eq] at q5
  split at q5
  ·rename_i n' ps' c1' c2' s' j hob
   have hob':=getO_live hob rfl
   obtain ⟨ri,hri,hor⟩:=q4.wr.ob _ _ hob' rfl
   rw [hEn'] at hri;cases hri
   obtain ⟨r3,t1,t2,_⟩:=hor
   subst q8
   have hrest:∀ (jump:Option Code),r3.state≠ .busy→r3.pending=jump→∀ (e4:Exit) (ex:Ex),exOk e4 ex→Q ex ⟨st.s,setO o' st.o.length .dead⟩→
     (∀ (Q':Exit→Act→World→Prop) (a4:Act) (w4:World),Q' e4 a4 w4→match jump with|none=>Q' .normal a4 w4|some c=>c.wpIn (fen none) 0 P Q' a4 w4)→
     rangePost (fen none) 0 P (w.heap.size+1) (fun e a' w'=>∃ ex st' E' Pp',exOk e ex∧Sim G.tt G.n (B.at a'.defers) E' Pp' st' a' w'∧Mk w a.defers E' st'.o a'.defers w'∧w.heap.size≤w'.heap.size∧Q ex st') { a with defers:=[mkD w.heap.size]++a.defers } (.returned v) w3:=by
    intro jump hne hpend e4 ex he4 hQ hgo
    subst hpend
    have hend:=run_endLoop (P:=P) t1 hne
    have hdrop:=hcomp.dropLoop (r2:={ r3 with state:=.exhausted }) hob' hEn' rfl
    rw [← setO_eq] at hdrop
    have hsim:Sim G.tt G.n (B.at ([mkD w.heap.size]++a.defers)) E' Pp' ⟨st.s,setO o' st.o.length .dead⟩ { a with defers:=[mkD w.heap.size]++a.defers } (w3.putObj (w.heap.size+1) (.loop { r3 with state:=.exhausted })):=
     ⟨hdrop.wr,q3,hs.size,rfl,hdrop.pre,hdrop.per,hdrop.fr,hdrop.pnew,hdrop.fresh⟩
    have hmk:Mk w a.defers E' (setO o' st.o.length .dead) ([mkD w.heap.size]++a.defers) (w3.putObj (w.heap.size+1) (.loop { r3 with state:=.exhausted })):=by
     refine ⟨[w.heap.size],rfl,by simp,fun b hbm=> ?_⟩
     rw [List.mem_singleton] at hbm
     subst hbm
     have hz:w1.heap.size≤w3.heap.size:=q4.fr.size
     refine ⟨Nat.le_refl _,by simp [World.putObj];omega,?_,?_⟩
     ·rw [World.putObj_heap_other (by omega)];exact hb3.1
     ·rintro ⟨i,o,ri,r1,r2,r3,r4⟩
      rw [setO_eq] at r1
      by_cases hi:i=st.o.length
      ·subst hi
       rw [List.getElem?_set_self (lt_of_get hob')] at r1
       cases r1
       simp [Ob.live] at r2
      ·rw [List.getElem?_set_ne (Ne.symm hi)] at r1
       exact hb3.2 ⟨i,o,ri,r1,r2,r3,r4⟩
    have hz:w.heap.size≤(w3.putObj (w.heap.size+1) (.loop { r3 with state:=.exhausted })).heap.size:=by
     have hz:w1.heap.size≤w3.heap.size:=q4.fr.size
     simp [World.putObj];omega
    exact ⟨r3.pending,_,hend,hgo (fun e a' w'=>∃ ex st' E' Pp',exOk e ex∧Sim G.tt G.n (B.at a'.defers) E' Pp' st' a' w'∧Mk w a.defers E' st'.o a'.defers w'∧w.heap.size≤w'.heap.size∧Q ex st') _ _ ⟨ex,_,E',Pp',he4,hsim,hmk,hz,hQ⟩⟩
   have hstate:=t2.state
   split at q5
   ·exact hrest none (by rw [hstate.1];decide) hstate.2 .normal .normal trivial q5 (fun Q' a4 w4 h=>h)
   ·exact hrest (some .ret) (by rw [hstate.1];decide) hstate.2 .ret .ret trivial q5 (fun Q' a4 w4 h=>wpIn_ret h)
   ·exact hrest (some (.exit _)) (by rw [hstate.1];decide) hstate.2 (.exit _) (.exit _) rfl q5 (fun Q' a4 w4 h=>wpIn_exit h)
   ·exact q5.elim
  ·exact q5.elim
theorem Ctx.range {G:Cfg} {A:Alg} {C:CallP} {L:Code→St→(Ex→St→Prop)→Prop} (X:Ctx P G A C L) (hr:G.rnd=false) {g:Operand} {ps:Array Tmp} {c1 c2:Code} {st:St} {Q:Ex→St→Prop} {f:FuncId} {fn:Func} {code:Code} {caps:List PV} (hf:Has P f fn code) (hg:ev st.s g= .clos f caps) (s2:Slots) (hs2:subS st.s s2)
  (hk:rangeK G C f caps ps c1 c2 s2 st Q) (hfb:nlt f bndM=true:=by rfl):L (.rangeFunc g ps c1 c2) st Q:=by
 obtain ⟨rfl,rfl,⟨r,h0,rfl⟩,htt,hm⟩:=X
 obtain rfl:=h0 hr
 exact rangeFn_ok hg hf hfb hs2 hk
end
end Go.VC
end

section
namespace Go.VC
open Go Go.ChangeShapes
def AllP (w:World):Per:=fun ad v=>w.cell? ad=some v
inductive Bd (n:Nat):D→Prop
 |int (k):Bd n (.int k)
 |bool (b):Bd n (.bool b)
 |str (s:List UInt8) (h:s.length≤n):Bd n (.str s)
 |nil:Bd n .nil
 |list (rows:List (List D)) (h:rows.length≤n) (hr:∀ row∈rows,∀ d∈row,Bd n d):Bd n (.list rows)
 |ptr (cs:List D) (hr:∀ d∈cs,Bd n d):Bd n (.ptr cs)
mutual
def wD:D→Nat
 | .int _=>1
 | .bool _=>1
 | .str _=>1
 | .nil=>1
 | .ptr cs=>1+wDs cs
 | .list rows=>1+wDr rows
def wDs:List D→Nat
 |[]=>0
 |d::l=>wD d+wDs l
def wDr:List (List D)→Nat
 |[]=>0
 |r::l=>wDs r+wDr l
end
theorem wDs_app:∀ (a b:List D),wDs (a++b)=wDs a+wDs b
 |[],b=>by simp [wDs]
 |d::a,b=>by simp only [List.cons_append,wDs,wDs_app a b];omega
theorem wDr_sum:∀ (l:List (List D)),wDr l=(l.map wDs).sum
 |[]=>by simp [wDr]
 |r::l=>by simp only [wDr,List.map_cons,List.sum_cons,wDr_sum l]
theorem wDr_mem {r:List D}:∀ {l:List (List D)},r∈l→wDs r≤wDr l
 |x::l,h=>by
  simp only [wDr]
  rcases List.mem_cons.1 h with rfl|h
  ·omega
  ·have:=wDr_mem h;omega
structure BulkOk {H:Type} (bulk:DataW H→Nat):Prop where
 str:∀ s,s.length≤bulk (.lit (.string s))
 slice:∀ es sp,es.length≤bulk (.slice es sp)∧∀ e∈es,bulk e≤bulk (.slice es sp)
 agg:∀ ps,∀ e∈ps,bulk e≤bulk (.agg ps)
 ptr:∀ d,bulk d≤bulk (.ptr d)
 one:∀ d,1≤bulk d
 sums:∀ es sp,1+(es.map bulk).sum≤bulk (.slice es sp)
 suma:∀ ps,(ps.map bulk).sum≤bulk (.agg ps)
inductive RowRD (tt:TypeId→Option TI) (Pp:Per) (n:Nat):List CK→List Value→List D→Prop
 |nil:RowRD tt Pp n [] [] []
 |cons (ck v d cks vs ds) (h:RD tt Pp ck v d) (hb:Bd n d) (t:RowRD tt Pp n cks vs ds):RowRD tt Pp n (ck::cks) (v::vs) (d::ds)
section
variable {tt:TypeId→Option TI} {Pp:Per} {n:Nat}
theorem RowRD.append {cks cks':List CK} {vs vs':List Value} {ds ds':List D} (h:RowRD tt Pp n cks vs ds) (k:RowRD tt Pp n cks' vs' ds'):RowRD tt Pp n (cks++cks') (vs++vs') (ds++ds'):=by
 induction h with
 |nil=>exact k
 |cons ck v d cks vs ds h hb _ ih=>exact .cons _ _ _ _ _ _ h hb ih
theorem RowRD.len {cks:List CK} {vs:List Value} {ds:List D} (h:RowRD tt Pp n cks vs ds):vs.length=cks.length∧ds.length=cks.length:=by
 induction h with
 |nil=>exact ⟨rfl,rfl⟩
 |cons _ _ _ _ _ _ _ _ _ ih=>simp [ih.1,ih.2]
theorem RowRD.get {cks:List CK} {vs:List Value} {ds:List D} (h:RowRD tt Pp n cks vs ds):∀ {j:Nat} {ck:CK} {v:Value} {d:D},cks[j]? =some ck→vs[j]? =some v→ds[j]? =some d→RD tt Pp ck v d∧Bd n d:=by
 induction h with
 |nil=>intro j ck v d h;simp at h
 |cons ck v d cks vs ds h hb _ ih=>
  intro j ck' v' d' h1 h2 h3
  cases j with
  |zero=>simp at h1 h2 h3;subst h1 h2 h3;exact ⟨h,hb⟩
  |succ j=>exact ih (by simpa using h1) (by simpa using h2) (by simpa using h3)
theorem RowRD.bd {cks:List CK} {vs:List Value} {ds:List D} (h:RowRD tt Pp n cks vs ds):∀ d∈ds,Bd n d:=by
 induction h with
 |nil=>intro d hd;simp at hd
 |cons ck v d cks vs ds h hb _ ih=>
  intro d' hd
  rcases List.mem_cons.1 hd with rfl|hd
  ·exact hb
  ·exact ih d' hd
theorem RowRD.of_get:∀ {cks:List CK} {vs:List Value} {ds:List D},vs.length=cks.length→ds.length=cks.length→
  (∀ (j:Nat) (ck:CK) (v:Value) (d:D),cks[j]? =some ck→vs[j]? =some v→ds[j]? =some d→RD tt Pp ck v d∧Bd n d)→RowRD tt Pp n cks vs ds
 |[],[],[],_,_,_=>.nil
 |ck::cks,v::vs,d::ds,h1,h2,h=>.cons _ _ _ _ _ _ (h 0 ck v d rfl rfl rfl).1 (h 0 ck v d rfl rfl rfl).2 (RowRD.of_get (by simpa using h1) (by simpa using h2) fun j ck v d a b c=>h (j+1) ck v d (by simpa using a) (by simpa using b) (by simpa using c))
 |[],_::_,_,h1,_,_=>by simp at h1
 |[],[],_::_,_,h2,_=>by simp at h2
 |_::_,[],_,h1,_,_=>by simp at h1
 |_::_,_::_,[],_,h2,_=>by simp at h2
theorem RD.rows {e:TypeId} {v:Value} {d:D} (h:RD tt Pp (.slice e) v d) (hb:Bd n d):∃ rows,d= .list rows∧rows.length≤n∧∀ row∈rows,∃ vs,RowRD tt Pp n (cksOf tt e) vs row:=by
 cases hb with
 |list rows hl hr=>
  refine ⟨rows,rfl,hl,?_⟩
  cases h with
  |slnil=>intro row h;simp at h
  |sl0=>intro row h;simp at h
  |sl _ b o len cap _ vf hlen hc hrow hpi hrd=>
   intro row hm
   obtain ⟨i,hi⟩:=List.getElem?_of_mem hm
   refine ⟨(List.range (cksOf tt e).length).map (vf i),RowRD.of_get (by simp) (hrow i row hi) ?_⟩
   intro j ck v d h1 h2 h3
   have hj:=lt_of_get h1
   simp [hj] at h2
   subst h2
   exact ⟨hrd i j row d ck hi h3 h1,hr row hm d (List.mem_of_getElem? h3)⟩
 |int=>cases h
 |bool=>cases h
 |str=>cases h
 |nil=>cases h
 |ptr=>cases h
theorem lift_map {α β:Type} {f:α→β} {p:α→Prop}:∀ {rows:List β},(∀ r∈rows,∃ x,r=f x∧p x)→∃ l:List α,rows=l.map f∧∀ x∈l,p x
 |[],_=>⟨[],rfl,fun x h=>by simp at h⟩
 |r::rows,h=>by
  obtain ⟨x,rfl,hp⟩:=h r (by simp)
  obtain ⟨l,rfl,hl⟩:=lift_map (rows:=rows) (fun r hr=>h r (by simp [hr]))
  refine ⟨x::l,rfl,fun y hy=> ?_⟩
  rcases List.mem_cons.1 hy with rfl|hy
  ·exact hp
  ·exact hl y hy
end
theorem sum_range_le {f:Nat→Nat}:∀ {len:Nat} {l:List Nat},(∀ i,i<len→f i≤l.getD i 0)→len≤l.length→((List.range len).map f).sum≤l.sum
 |len,[],_,hl=>by simp at hl;subst hl;simp
 |0,l,_,_=>by simp
 |len+1,x::l,h,hl=>by
  rw [List.range_succ_eq_map,List.map_cons,List.sum_cons,List.map_map,List.sum_cons]
  have h0:=h 0 (by omega)
  have:=sum_range_le (f:=f∘Nat.succ) (len:=len) (l:=l) (fun i hi=>by have:=h (i+1) (by omega);simpa using this) (by simpa using hl)
  simp at h0
  omega
def tileB (tt:TypeId→Option TI) (S:List TypeId):Nat→List (Nat×TypeId)→List CK→Bool
 |_,[],cks=>cks.isEmpty
 |off,(o,ft)::fs,cks=>nb o off&&S.contains ft&&decide (cks.take (cksOf tt ft).length=cksOf tt ft)&&tileB tt S (off+(cksOf tt ft).length) fs (cks.drop (cksOf tt ft).length)
def dataB (tt:TypeId→Option TI) (S:List TypeId) (t:TypeId):Bool:=match tt t with
 |none=>false
 |some ti=>match ti.agg with
  |true=>nb ti.ar 0&&tileB tt S 0 ti.fs ti.cks
  |false=>match ti.cks with
   |[.int _]=>true
   |[.bool]=>true
   |[.str]=>true
   |[.slice e]=>S.contains e&& !(cksOf tt e).isEmpty
   |_=>false
section
variable {P:Program} {tt:TypeId→Option TI} {H:Type} {enc:TypeId×Value→H} {w:World} {n:Nat}
theorem cellsOf_eq (htt:TtOk P tt) {t:TypeId} {ti:TI} (h:tt t=some ti):P.cellsOf t=(cksOf tt t).length:=by
 obtain ⟨i,z,d,hi,hsz,_⟩:=(htt t ti h).info
 simp [Program.cellsOf,hi,cksOf,h,hsz]
theorem cells?_get {base:Nat} {a:Addr} {m:Nat} {cs:List Value} (h:w.cells? base a m=some cs):cs.length=m∧∀ j,j<m→w.cell? (a.add j)=cs[j]? :=by
 unfold World.cells? at h
 split at h
 ·exact ⟨by simpa using mapM_some_length h,fun j hj=>mapM_some_get h j j (by simp [hj])⟩
 ·cases h
theorem tile_row {S:List TypeId} {fuel:Nat} {cs:List Value} {bulk:DataW H→Nat} (hcell:∀ ft,S.contains ft=true→P.cellsOf ft=(cksOf tt ft).length):
  ∀ (xs:List (DataW H×List MemPlace)) (fs:List (Nat×TypeId)) (off:Nat) (cks:List CK),
   (∀ (t:TypeId) (cs:List Value) (x:DataW H×List MemPlace),S.contains t=true→x∈xs→DataW.trod enc P w 0 (fun _=>true) true fuel t cs=some x→∃ ds,RowRD tt (AllP w) n (cksOf tt t) cs ds∧wDs ds≤bulk x.1)→
   tileB tt S off fs cks=true→cs.length=off+cks.length→
   (∀ (i o:Nat) (ft:TypeId),fs[i]? =some (o,ft)→∃ x,xs[i]? =some x∧DataW.trod enc P w 0 (fun _=>true) true fuel ft ((cs.drop o).take (P.cellsOf ft))=some x)→
   ∃ ds,RowRD tt (AllP w) n cks (cs.drop off) ds∧wDs ds≤(xs.map fun x=>bulk x.1).sum
 |xs,[],off,cks,_,h,hl,_=>by
  simp only [tileB,List.isEmpty_iff] at h
  subst h
  simp at hl
  rw [List.drop_eq_nil_of_le (by omega)]
  exact ⟨[],.nil,by simp [wDs]⟩
 |[],(o,ft)::fs,off,cks,_,h,hl,hx=>by
  obtain ⟨x,hm,_⟩:=hx 0 o ft rfl
  simp at hm
 |x0::xs,(o,ft)::fs,off,cks,ih,h,hl,hx=>by
  simp only [tileB,Bool.and_eq_true,decide_eq_true_eq] at h
  obtain ⟨⟨⟨h1,h2⟩,h3⟩,h4⟩:=h
  have:=nb_of h1
  subst this
  obtain ⟨x,hm,ht⟩:=hx 0 o ft rfl
  simp at hm
  subst hm
  obtain ⟨ds1,hd1,hw1⟩:=ih _ _ _ h2 (by simp) ht
  rw [hcell ft h2] at hd1
  have hlen:(cksOf tt ft).length≤cks.length:=by have:=congrArg List.length h3;simp at this;omega
  obtain ⟨ds2,hd2,hw2⟩:=tile_row (cs:=cs) hcell xs fs (o+(cksOf tt ft).length) (cks.drop (cksOf tt ft).length) (fun t cs x a b c=>ih t cs x a (by simp [b]) c) h4 (by simp;omega) (fun i o ft hi=>by
   obtain ⟨x,h5,h6⟩:=hx (i+1) o ft (by simpa using hi)
   exact ⟨x,by simpa using h5,h6⟩)
  refine ⟨ds1++ds2,?_,by rw [wDs_app,List.map_cons,List.sum_cons];omega⟩
  have:=hd1.append hd2
  rw [← h3] at this
  rw [show (List.take (cksOf tt ft).length cks).length=(cksOf tt ft).length by rw [h3]] at this
  rwa [List.take_append_drop,←List.drop_drop,List.take_append_drop] at this
theorem trod_row (htt:TtOk P tt) {S:List TypeId} (hS:S.all (dataB tt S)=true) {bulk:DataW H→Nat} (hb:BulkOk bulk):
  ∀ (fuel:Nat) (t:TypeId) (cs:List Value) (x:DataW H×List MemPlace),S.contains t=true→DataW.trod enc P w 0 (fun _=>true) true fuel t cs=some x→bulk x.1≤n→∃ ds,RowRD tt (AllP w) n (cksOf tt t) cs ds∧wDs ds≤bulk x.1:=by
 have hin:∀ t,S.contains t=true→dataB tt S t=true:=fun t ht=>List.all_eq_true.1 hS t (by simpa using ht)
 have hcell:∀ t,S.contains t=true→P.cellsOf t=(cksOf tt t).length:=by
  intro t ht
  have:=hin t ht
  unfold dataB at this
  split at this
  ·cases this
  ·rename_i ti hti;exact cellsOf_eq htt hti
 intro fuel
 induction fuel with
 |zero=>intro t cs x _ h;simp [DataW.trod] at h
 |succ fuel ih=>
  intro t cs x ht h hbx
  have hd:=hin t ht
  have hct:=hcell t ht
  unfold dataB at hd
  split at hd
  ·cases hd
  rename_i ti hti
  have hcks:cksOf tt t=ti.cks:=by simp [cksOf,hti]
  obtain ⟨i,z,d,hi,hsz,_,_,_,_,hu,hdesc⟩:=(htt t ti hti).info
  rw [hcks] at hct ⊢
  cases d with
  |int k=>
   obtain ⟨m,rfl,rfl,_⟩:=DataW.trod_int hu h
   rw [hdesc.2.1]
   exact ⟨_,.cons _ _ _ _ _ _ (.int _ _) (.int _) .nil,by simp only [wDs,wD];exact hb.one _⟩
  |bool=>
   obtain ⟨m,rfl,rfl⟩:=DataW.trod_bool hu h
   rw [hdesc.2.1]
   exact ⟨_,.cons _ _ _ _ _ _ (.bool _) (.bool _) .nil,by simp only [wDs,wD];exact hb.one _⟩
  |string=>
   obtain ⟨s,rfl,rfl,_⟩:=DataW.trod_string hu h
   rw [hdesc.2.1]
   exact ⟨_,.cons _ _ _ _ _ _ (.str _) (.str _ (Nat.le_trans (hb.str _) hbx)) .nil,by simp only [wDs,wD];exact hb.one _⟩
  |struct fields=>
   obtain ⟨ha,hf,_⟩:=hdesc
   rw [ha] at hd
   simp only [Bool.and_eq_true] at hd
   obtain ⟨xs,m,hm,rfl,hl,hxl,hx⟩:=DataW.trod_struct hu h
   cases hm
   have hbs:∀ y∈xs,bulk y.1≤n:=fun y hy=>Nat.le_trans (hb.agg _ _ (List.mem_map.2 ⟨y,hy,rfl⟩)) hbx
   have:=tile_row (n:=n) (cs:=cs) (bulk:=bulk) hcell xs ti.fs 0 ti.cks (fun t' cs' x' h1 h2 h3=>ih t' cs' x' h1 h3 (hbs _ h2)) hd.2 (by omega) ?_
   ·obtain ⟨ds,h1,h2⟩:=this
    refine ⟨ds,by simpa using h1,Nat.le_trans h2 ?_⟩
    have:=hb.suma (xs.map (·.1))
    rw [List.map_map] at this
    exact this
   ·intro j o ft hj
    rw [← hf j] at hj
    rw [Option.map_eq_some_iff] at hj
    obtain ⟨f,hf',he⟩:=hj
    cases he
    have hlt:j<fields.size:=by
     rcases Nat.lt_or_ge j fields.size with h'|h'
     ·exact h'
     ·rw [Array.getElem?_eq_none h'] at hf';cases hf'
    have:=hx j f hf'
    rw [List.getElem?_eq_getElem (by omega)] at this
    exact ⟨_,List.getElem?_eq_getElem (by omega),this⟩
  |slice e=>
   obtain ⟨ha,hck,_⟩:=hdesc
   rw [ha,hck] at hd
   simp only [Bool.and_eq_true,Bool.not_eq_true',List.isEmpty_eq_false_iff] at hd
   obtain ⟨he,hne⟩:=hd
   have hce:=hcell e he
   have hpos:0<(cksOf tt e).length:=List.length_pos_iff.2 hne
   rw [hck]
   rcases DataW.trod_slice hu h with ⟨rfl,rfl⟩|⟨a,len,cap,elems,rest,m,hm,rfl,rfl,_,hlc,hcap,hel,hget,hrest,_⟩
   ·exact ⟨_,.cons _ _ _ _ _ _ (.slnil _) (.list _ (by simp) (fun row h=>by simp at h)) .nil,by simp only [wDs,wD,wDr];exact hb.one _⟩
   ·cases hm
    obtain ⟨hrl,hrg⟩:=hrest rfl
    have hbl:=hb.slice (elems.map (·.1)) (rest.map (·.1))
    rw [hce] at hget hrg
    by_cases hc0:cap=0
    ·subst hc0
     have:len=0:=by omega
     subst this
     exact ⟨_,.cons _ _ _ _ _ _ (.sl0 _ a) (.list _ (by simp) (fun row h=>by simp at h)) .nil,by simp only [wDs,wD,wDr];exact hb.one _⟩
    ·-- an address without a spot
     have hspot:a.spot=none:=by
      have:∃ cs',w.cells? 0 (a.add 0) (cksOf tt e).length=some cs':=by
       by_cases hl0:0<len
       ·have:=hget 0 hl0
        rw [List.getElem?_eq_getElem (by omega),Option.bind_eq_some_iff] at this
        obtain ⟨cs',h1,_⟩:=this
        exact ⟨cs',by simpa using h1⟩
       ·have:=hrg 0 (by omega)
        rw [List.getElem?_eq_getElem (by omega),Option.bind_eq_some_iff] at this
        obtain ⟨cs',h1,_⟩:=this
        have hz:len=0:=by omega
        subst hz
        exact ⟨cs',by simpa using h1⟩
      obtain ⟨cs',h1⟩:=this
      obtain ⟨h2,h3⟩:=cells?_get h1
      have:=h3 0 hpos
      rw [List.getElem?_eq_getElem (by omega)] at this
      simpa [Addr.add] using World.cell?_spot this
     obtain ⟨b,o,sp⟩:=a
     simp only at hspot
     subst hspot
     have key:∀ i,∃ cs' ds,i<len→(cs'.length=(cksOf tt e).length∧(∀ j,j<(cksOf tt e).length→w.cell? ⟨b,o+i*(cksOf tt e).length+j,none⟩=cs'[j]?)∧RowRD tt (AllP w) n (cksOf tt e) cs' ds∧wDs ds≤(elems.map fun x=>bulk x.1).getD i 0):=by
      intro i
      by_cases hi:i<len
      ·have:=hget i hi
       rw [List.getElem?_eq_getElem (by omega),Option.bind_eq_some_iff] at this
       obtain ⟨cs',h1,h2⟩:=this
       have hbe:bulk (elems[i]'(by omega)).1≤n:=Nat.le_trans (hbl.2 _ (List.mem_map.2 ⟨_,List.getElem_mem _,rfl⟩)) hbx
       obtain ⟨ds,hds,hwd⟩:=ih e cs' _ he h2 hbe
       obtain ⟨h3,h4⟩:=cells?_get h1
       refine ⟨cs',ds,fun _=>⟨h3,fun j hj=> ?_,hds,by rw [List.getD_eq_getElem?_getD,List.getElem?_map,List.getElem?_eq_getElem (by omega)];exact hwd⟩⟩
       have:=h4 j hj
       rwa [add_none,add_none] at this
      ·exact ⟨[],[],fun h=>absurd h hi⟩
     have ⟨cf,key⟩:=Classical.skolem.1 key
     have ⟨df,key⟩:=Classical.skolem.1 key
     have hrows:∀ (i:Nat) (row:List D),((List.range len).map df)[i]? =some row→i<len∧row=df i:=by
      intro i row hi
      have hlt:=lt_of_get hi
      simp at hlt
      simp [hlt] at hi
      exact ⟨hlt,hi.symm⟩
     refine ⟨_,.cons _ _ _ _ _ _ (.sl e b o len cap ((List.range len).map df) (fun i j=>(cf i).getD j undef) (by simp) hlc ?_ ?_ ?_) (.list _ ?_ ?_) .nil,?_⟩
     ·intro i row hi
      obtain ⟨hlt,rfl⟩:=hrows i row hi
      exact (key i hlt).2.2.1.len.2
     ·intro i j hi hj
      obtain ⟨k1,k2,_⟩:=key i hi
      have:=k2 j hj
      rw [List.getElem?_eq_getElem (by omega)] at this
      show w.cell? _=some _
      rw [this]
      simp [List.getD_eq_getElem?_getD,k1,hj]
     ·intro i j row d ck hi hj hck
      obtain ⟨hlt,rfl⟩:=hrows i row hi
      obtain ⟨k1,_,k3,_⟩:=key i hlt
      have hjl:=lt_of_get hck
      exact (k3.get hck (v:=(cf i).getD j undef) (by rw [List.getElem?_eq_getElem (by omega)];simp [List.getD_eq_getElem?_getD,k1,hjl]) hj).1
     ·have h1:=hbl.1
      have h2:bulk (DataW.slice (elems.map (·.1)) (rest.map (·.1)))≤n:=hbx
      rw [List.length_map] at h1
      rw [List.length_map,List.length_range]
      omega
     ·intro row hrow d hd'
      obtain ⟨i,hi⟩:=List.getElem?_of_mem hrow
      obtain ⟨hlt,rfl⟩:=hrows i row hi
      exact (key i hlt).2.2.1.bd d hd'
     ·simp only [wDs,wD]
      have hsum:=hb.sums (elems.map (·.1)) (rest.map (·.1))
      rw [List.map_map] at hsum
      have hsum:1+(elems.map fun x=>bulk x.1).sum≤bulk (DataW.slice (elems.map (·.1)) (rest.map (·.1))):=hsum
      have hle:wDr ((List.range len).map df)≤(elems.map fun x=>bulk x.1).sum:=by
       rw [wDr_sum,List.map_map]
       exact sum_range_le (fun i hi=>(key i hi).2.2.2) (by rw [List.length_map];omega)
      omega
  |array m e=>
   obtain ⟨ha,har,_⟩:=hdesc
   rw [ha] at hd
   simp only [Bool.and_eq_true] at hd
   have:=nb_of hd.1
   omega
  |pointer e=>rw [hdesc.1,hdesc.2.1] at hd;cases hd
  |map k e=>rw [hdesc.1,hdesc.2.1] at hd;cases hd
  |func=>rw [hdesc.1,hdesc.2.1] at hd;cases hd
  |_=>exact hdesc.elim
theorem AllP.wr (w:World) (hg:∀ b,globOf tt=some b→∃ m:Int,w.cell? ⟨b,0,none⟩=some (.int .i64 m)):WR tt [] (AllP w) [] w:=⟨rfl,fun _ _ h=>pc_of_cell h,fun i o h=>by simp at h,fun i j oi oj ri rj b h=>by simp at h,hg⟩
theorem trodAll_stays (hl:laidOutB P=true) {W W':World} (hb:Go.RowKit.Below W.heap.size W W') {sp:Nat→Bool}:∀ {ts:List TypeId} {vs:List Value} {ds:List (DataW H)} {ps:List MemPlace},(∀ t∈ts,P.readableRec t=true∧t<P.types.size)→
  DataW.TrodAll enc P W 0 (fun _=>true) true ts vs ds ps→(∀ p∈ps,p.block<W.heap.size)→(∀ p∈ps,sp p.block=true)→DataW.TrodAll enc P W' 0 sp true ts vs ds ps
 |[],[],[],_,_,h,_,_=>h
 |_::_,_::_,_::_,_,ht,⟨p,q,h1,h2,e⟩,hlt,hs=>by
  subst e
  refine ⟨p,q,WideElems.Trod_stays hl (ht _ (by simp)).1 (ht _ (by simp)).2 h1 (fun x hx=>hb.same (hlt x (by simp [hx]))) (fun x hx=>hs x (by simp [hx])),?_,rfl⟩
  exact trodAll_stays hl hb (fun t h=>ht t (by simp [h])) h2 (fun x hx=>hlt x (by simp [hx])) (fun x hx=>hs x (by simp [hx]))
theorem law_post {fn:Func} {s:ChangeSpec} {apart fresh handsOn:Bool} {W:World} {f:FuncId} {vals:List Value} {ds gs:List (DataW H)} {before:List MemPlace} {tb:TypeId} {c:Code}
  (hW:DataW.Whole enc P fn.params.toList s.vars apart W vals ds gs before) (hvars:s.vars=[]) (hl:laidOutB P=true) (hr:∀ t∈fn.params.toList,P.readableRec t=true∧t<P.types.size)
  (hrt:fn.resultTypes= #[tb]) (htb:P.underlying tb=some .bool) (hspec:(s.fn H ds).results=[.lit (.bool true)]∧(s.fn H ds).args=ds∧(s.fn H ds).vars=[])
  (hf:Has P f fn c) {args:List PV} (hv:VRL tt [] (AllP W) vals args) (hg:∀ b,globOf tt=some b→∃ m:Int,W.cell? ⟨b,0,none⟩=some (.int .i64 m)) (h:FC P tt f [] args fun v _=>v= .bool true):
  Calls P f ⟨vals⟩ W fun e W'=>∃ v,e= .returned v∧s.post enc P fn apart fresh handsOn false W ⟨vals⟩ v W':=by
 have hlt:=hW.lt
 have hW0:=hW
 obtain ⟨p,q,hA,hV,rfl,hfz,hnd⟩:=hW
 rw [hvars] at hV
 obtain ⟨rfl,rfl⟩:=trodVars_none hV
 rw [List.append_nil] at hlt
 rcases h [] (AllP W) W vals (AllP.wr W hg) hv with ⟨_,hc⟩|⟨v,w',hc,_⟩
 ·refine hc.mono ?_
  rintro e W' ⟨v,E',Pp',objs',pv,rfl,_,_,_,hvr,rfl,hfr,_⟩
  cases hvr
  have hb:Go.RowKit.Below W.heap.size W W':=⟨hfr.os,hfr.tape,hfr.output,hfr.size,fun k hk=>hfr.block k hk own_nil⟩
  refine ⟨_,rfl,ds,[],_,[],p,[],hW0,?_,?_,?_,?_,fun h=>by cases h⟩
  ·rw [List.append_nil,hspec.1,hrt]
   exact trodAll_mk1 (Go.RowKit.shut_bool htb true)
  ·rw [List.append_nil,hspec.2.1]
   exact trodAll_stays hl hb hr hA hlt (fun x hx=>by simpa using hlt x hx)
  ·rw [List.append_nil,hspec.2.2,hvars];rfl
  ·refine ⟨hb.os,hb.output,fun i hi=> ?_⟩
   rw [hb.block i hi]
   exact (World.keptBut_refl W (fun x=>x∈p++[]∧(x∈[]∨x∈p∨x∈[]))).2.2 i hi
 ·rw [enter_run hf.f hf.b hf.name] at hc
  cases hc
end
end Go.VC
end
