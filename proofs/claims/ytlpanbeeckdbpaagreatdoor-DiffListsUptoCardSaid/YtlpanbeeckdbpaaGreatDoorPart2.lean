/- Part 2 of the common texts: E11 EA EB EC ED EE E12a. -/
import Derived.CallsIn
import Derived.Laws.MakeOwn
import Derived.Lib.AppendStr
import Derived.Laws.AppendOwn
import Derived.Laws.IdiomRangeMap
import Derived.RangeFuncLeaves
import Derived.RangeFuncNested
import Derived.OrdersIn
import Derived.Test.YtlpanbeeckdbpaaGreatDoorPart1
set_option linter.all false
set_option maxRecDepth 100000
set_option maxHeartbeats 16000000

section
namespace Go.VC
open Go
def FCPost (tt:TypeId→Option TI) (E:List RI) (Pp:Per) (objs:List Ob) (w:World) (K:PV→List Ob→Prop):Ending→World→Prop:=fun e w'=>
 ∃ v E' Pp' objs' pv,e= .returned v∧Eok E E'∧(∀ ad v,Pp ad v→Pp' ad v)∧
  WR tt E' Pp' objs' w'∧VR tt E' Pp' v pv∧K pv objs'∧Fr (own E objs) w w'∧PNew (own E objs) w Pp Pp'∧FreshO (own E objs) w E' objs'
def Invokes (P:Program) (f:FuncId) (vals:List Value) (w:World) (R:Ending→World→Prop):Prop:=
 ((callFunc f ⟨vals⟩).run P w= .ok (.enter f ⟨vals⟩) w∧Calls P f ⟨vals⟩ w R)∨∃ v w',(callFunc f ⟨vals⟩).run P w= .ok (.value v) w'∧R (.returned v) w'
theorem Invokes.mono {P:Program} {f:FuncId} {vals:List Value} {w:World} {R R':Ending→World→Prop} (h:Invokes P f vals w R) (hr:∀ e w',R e w'→R' e w'):Invokes P f vals w R':=by
 rcases h with ⟨h1,h2⟩|⟨v,w',h1,h2⟩
 ·exact .inl ⟨h1,h2.mono hr⟩
 ·exact .inr ⟨v,w',h1,hr _ _ h2⟩
def FC (P:Program) (tt:TypeId→Option TI) (f:FuncId) (objs:List Ob) (args:List PV) (K:PV→List Ob→Prop):Prop:=
 ∀ E Pp w vals,WR tt E Pp objs w→VRL tt E Pp vals args→Invokes P f vals w (FCPost tt E Pp objs w K)
def YC (P:Program) (tt:TypeId→Option TI) (objs:List Ob) (args:List PV) (K:PV→List Ob→Prop):Prop:=
 ∀ E Pp w vals l rec,WR tt E Pp objs w→E[0]? =some (.loop l)→w.heap[l]? =some (.loop rec)→VRL tt E Pp vals args→
  vals.length=rec.params.size∧RoundIn Fence.wide 0 P l rec.fn ((rec.params.zip (⟨vals⟩:Array Value)).foldl (fun tmps (t,a)=>tmps.setIfInBounds t a) rec.tmps) rec.assign rec.body w (FCPost tt E Pp objs w K)
def FCx (P:Program) (tt:TypeId→Option TI):CallP:=fun c objs args K=>match c with
 | .fn f=>FC P tt f objs args K
 | .yld=>YC P tt objs args K
theorem FC.mono {P:Program} {tt:TypeId→Option TI} {f:FuncId} {objs:List Ob} {args:List PV} {K K':PV→List Ob→Prop} (h:FC P tt f objs args K) (hk:∀ v o,K v o→K' v o):FC P tt f objs args K':=by
 intro E Pp w vals hw hv
 exact (h E Pp w vals hw hv).mono fun e w' ⟨v,E',Pp',objs',pv,h1,h2,h3,h4,h5,h6,h7,h8,h9⟩=>⟨v,E',Pp',objs',pv,h1,h2,h3,h4,h5,hk _ _ h6,h7,h8,h9⟩
section
variable {P:Program} {tt:TypeId→Option TI} {N:Nat} {B:Base} {E:List RI} {Pp:Per} {objs:List Ob} {w:World} {st:St} {a:Act}
theorem WR.nil {Pp':Per} (hp:∀ ad v,Pp' ad v→pc w ad=some v) (hg:GlF tt Pp'):WR tt [] Pp' [] w:=
 ⟨rfl,hp,fun i o h=>by simp at h,fun i j oi oj ri rj b h=>by simp at h,hg⟩
theorem own_nil {b:Nat} (h:own [] [] b):False:=by
 obtain ⟨i,o,ri,h,_⟩:=h
 simp at h
theorem hurtP_lt (hw:WR tt E Pp objs w) {F:List Nat} {ad:Addr} {v:Value} (h:hurtP tt E objs w Pp F ad v):pc w ad=some v:=by
 rcases h with h|⟨h,_⟩
 ·exact hw.pi _ _ h
 ·exact pc_of_cell h
theorem SimW.called {Pp1 Pp':Per} {w':World} {objs1:List Ob} (h1:SimW tt B E Pp1 objs1 w) (hp:∀ ad v,Pp1 ad v→Pp' ad v)
 (hfr:Fr (own [] []) w w') (hpi:∀ ad v,Pp' ad v→pc w' ad=some v) (hpn:PNew (own [] []) w Pp1 Pp'):SimW tt B E Pp' objs1 w':=by
 have hold:∀ k,k<w.heap.size→w'.heap[k]? =w.heap[k]? :=fun k hk=>hfr.block k hk (fun h=>own_nil h)
 refine ⟨h1.wr.frame (fun b hb=>hold b (own_lt h1.wr hb)) hp ?_ hpi,h1.pre,fun ad v hv=>hp ad v (h1.per ad v hv),?_,?_,h1.fresh⟩
 ·intro ad v hv
  rcases hpn ad v hv with h2|h2|h2
  ·exact .inl h2
  ·refine .inr (fun ho=> ?_)
   have:=own_lt h1.wr ho
   omega
  ·exact (own_nil h2).elim
 ·exact h1.fr.trans hfr (fun x _ h=>(own_nil h).elim)
 ·intro ad v hv
  rcases hpn ad v hv with h2|h2|h2
  ·exact h1.pnew ad v h2
  ·exact .inr (.inl (by have:=h1.fr.size;omega))
  ·exact (own_nil h2).elim
/-! ### objects laid back behind a call -/
section
variable {α:Type}
def putX:List Nat→List α→List α→List α
 |[],l,xs=>l++xs
 |r::F,l,x::xs=>putX F (l.set r x) xs
 |_::_,l,[]=>l
theorem backIx_lt:∀ {F:List Nat} {n j r:Nat},F[j]? =some r→backIx n F j=r
 |[],n,j,r,h=>by simp at h
 |x::F,n,0,r,h=>by simp at h;exact h
 |x::F,n,j+1,r,h=>backIx_lt (F:=F) (by simpa using h)
theorem putX_len:∀ {F:List Nat} {l xs:List α},F.length≤xs.length→(putX F l xs).length+F.length=l.length+xs.length
 |[],l,xs,_=>by simp [putX]
 |r::F,l,x::xs,h=>by
  have:=putX_len (F:=F) (l:=l.set r x) (xs:=xs) (by simpa using h)
  simp only [putX,List.length_cons,List.length_set] at*
  omega
 |_::_,l,[],h=>by simp at h
theorem putX_old:∀ {F:List Nat} {l xs:List α} {i:Nat},F.length≤xs.length→i<l.length→i∉F→(putX F l xs)[i]? =l[i]?
 |[],l,xs,i,_,hi,_=>by simp [putX,List.getElem?_append_left hi]
 |r::F,l,x::xs,i,h,hi,hF=>by
  simp only [List.mem_cons,not_or] at hF
  show (putX F (l.set r x) xs)[i]? =_
  rw [putX_old (by simpa using h) (by simpa using hi) hF.2,List.getElem?_set_ne (Ne.symm hF.1)]
 |_::_,l,[],i,h,_,_=>by simp at h
theorem putX_new:∀ {F:List Nat} {l xs:List α} {j:Nat} {x:α},F.Nodup→(∀ r∈F,r<l.length)→F.length≤xs.length→xs[j]? =some x→(putX F l xs)[backIx l.length F j]? =some x
 |[],l,xs,j,x,_,_,_,hx=>by
  show (l++xs)[l.length+j]? =_
  rw [List.getElem?_append_right (by omega)];simpa using hx
 |r::F,l,y::xs,0,x,hnd,hlt,h,hx=>by
  simp at hx;subst hx
  rw [List.nodup_cons] at hnd
  show (putX F (l.set r y) xs)[r]? =_
  rw [putX_old (by simpa using h) (by simpa using hlt r (by simp)) hnd.1,List.getElem?_set_self (hlt r (by simp))]
 |r::F,l,y::xs,j+1,x,hnd,hlt,h,hx=>by
  rw [List.nodup_cons] at hnd
  show (putX F (l.set r y) xs)[backIx l.length F j]? =_
  have:=putX_new (F:=F) (l:=l.set r y) (xs:=xs) (j:=j) (x:=x) hnd.2 (fun r' hr=>by simpa using hlt r' (by simp [hr])) (by simpa using h) (by simpa using hx)
  simpa using this
 |_::_,l,[],j,x,_,_,h,_=>by simp at h
theorem putX_cases:∀ {F:List Nat} {l xs:List α} {i:Nat} {x:α},(∀ r∈F,r<l.length)→F.length≤xs.length→F.Nodup→(putX F l xs)[i]? =some x→
 (i<l.length∧i∉F∧l[i]? =some x)∨∃ j,i=backIx l.length F j∧xs[j]? =some x
 |[],l,xs,i,x,_,_,_,h=>by
  rcases Nat.lt_or_ge i l.length with h'|h'
  ·simp only [putX,List.getElem?_append_left h'] at h;exact .inl ⟨h',by simp,h⟩
  ·simp only [putX,List.getElem?_append_right h'] at h
   exact .inr ⟨i-l.length,by simp [backIx];omega,h⟩
 |r::F,l,y::xs,i,x,hlt,h,hnd,hx=>by
  rw [List.nodup_cons] at hnd
  rcases putX_cases (F:=F) (l:=l.set r y) (xs:=xs) (fun r' hr=>by simpa using hlt r' (by simp [hr])) (by simpa using h) hnd.2 hx with ⟨h1,h2,h3⟩|⟨j,h1,h2⟩
  ·by_cases hi:i=r
   ·subst hi
    rw [List.getElem?_set_self (by simpa using h1)] at h3
    exact .inr ⟨0,rfl,by simpa using h3⟩
   ·rw [List.getElem?_set_ne (Ne.symm hi)] at h3
    exact .inl ⟨by simpa using h1,by simp [hi,h2],h3⟩
  ·exact .inr ⟨j+1,by simpa [backIx] using h1,by simpa using h2⟩
 |_::_,l,[],i,x,_,h,_,_=>by simp at h
end
theorem putF_eq:∀ (F:List Nat) (l xs:List Ob),putF F l xs=putX F l xs
 |[],l,xs=>by simp [putF,putX,appL_eq]
 |r::F,l,x::xs=>by simp only [putF,putX,setO_eq];exact putF_eq F _ xs
 |_::_,l,[]=>rfl
theorem endIts_get (F:List Nat):∀ (l:List Ob) (i:Nat),(endIts F l)[i]? =(l[i]?).map fun o=>match o with| .iter m s=>bif memL m F then .dead else .iter m s|o=>o
 |[],i=>by simp [endIts]
 |o::l,i=>by cases o<;>cases i<;>simp [endIts,endIts_get F l]
theorem endIts_length (F:List Nat):∀ (l:List Ob),(endIts F l).length=l.length
 |[]=>rfl
 |o::l=>by cases o<;>simp [endIts,endIts_length F l]
theorem endIts_live {F:List Nat} {l:List Ob} {i:Nat} {o:Ob} (h:(endIts F l)[i]? =some o) (hl:o.live=true):l[i]? =some o∧∀ m s,o= .iter m s→m∉F:=by
 rw [endIts_get] at h
 cases hx:l[i]? with
 |none=>rw [hx] at h;simp at h
 |some o'=>
  rw [hx] at h
  simp only [Option.map_some,Option.some.injEq] at h
  cases o' with
  |iter m s=>
   simp only at h
   cases hm:memL m F with
   |true=>rw [hm] at h;simp at h;subst h;simp [Ob.live] at hl
   |false=>
    rw [hm] at h;simp at h;subst h
    refine ⟨rfl,fun m' s' e=> ?_⟩
    cases e
    intro hmem
    rw [(memL_eq _ _).2 hmem] at hm;cases hm
  |_=>simp only at h;subst h;exact ⟨rfl,fun m s e=>by cases e⟩
theorem pick_E {ps:List Nat} {k r:Nat} {ri:RI} (hk:ps[k]? =some r) (hri:E[r]? =some ri):(ps.map fun r=>E.getD r .row0)[k]? =some ri:=by
 simp [hk,List.getD,hri]
theorem pick_ix {ps:List Nat} {i k:Nat} {x:RI} (hk:ixOf ps 0 i=some k) (hx:E[i]? =some x):(ps.map fun r=>E.getD r .row0)[k]? =some x:=by
 obtain ⟨j,rfl,hj⟩:=ixOf_some hk
 rw [Nat.zero_add]
 exact pick_E hj hx
theorem pick_O {ps:List Nat} {k:Nat} {q:Ob} (hq:(mapL (fun r=>pickO ps (getO objs r)) ps)[k]? =some q) (hl:q.live=true):∃ r o',ps[k]? =some r∧objs[r]? =some o'∧o'.live=true∧q=pickO ps o':=by
 rw [mapL_eq,List.getElem?_map] at hq
 cases hx:ps[k]? with
 |none=>rw [hx] at hq;simp at hq
 |some r=>
  rw [hx] at hq
  simp only [Option.map_some,Option.some.injEq] at hq
  rw [getO_eq] at hq
  cases ho:objs[r]? with
  |none=>simp only [List.getD,ho,Option.getD_none,pickO] at hq;subst hq;simp [Ob.live] at hl
  |some o'=>
   simp only [List.getD,ho,Option.getD_some] at hq
   refine ⟨r,o',rfl,ho,?_,hq.symm⟩
   cases o'<;>first|rfl|(subst hq;simp [pickO,Ob.live] at hl)
theorem pick_blk {ps:List Nat} (hw:WR tt E Pp objs w) {k:Nat} {q:Ob} {ri:RI} (hq:(mapL (fun r=>pickO ps (getO objs r)) ps)[k]? =some q) (hl:q.live=true) (hri:(ps.map fun r=>E.getD r .row0)[k]? =some ri):
 ∃ r o',ps[k]? =some r∧objs[r]? =some o'∧o'.live=true∧E[r]? =some ri:=by
 obtain ⟨r,o',h1,h2,h3,h4⟩:=pick_O hq hl
 obtain ⟨ri',h5,_⟩:=hw.ob r o' h2 h3
 have:=pick_E h1 h5
 rw [hri] at this;cases this
 exact ⟨r,o',h1,h2,h3,h5⟩
theorem WR.pick {ps:List Nat} (hw:WR tt E Pp objs w) (hnd:ps.Nodup):WR tt (ps.map fun r=>E.getD r .row0) Pp (mapL (fun r=>pickO ps (getO objs r)) ps) w:=by
 refine ⟨by simp [mapL_eq],hw.pi,?_,?_,hw.gl⟩
 ·intro k q hq hl
  obtain ⟨r,o',h1,h2,h3,rfl⟩:=pick_O hq hl
  obtain ⟨ri,h5,h6⟩:=hw.ob r o' h2 h3
  refine ⟨ri,pick_E h1 h5,?_⟩
  cases o' with
  |box cs=>
   cases ri<;>simp only [OR] at h6<;>simp only [pickO,OR]
   ·obtain ⟨vs,T,a1,a2,a3,a4⟩:=h6
    exact ⟨vs,T,a1,picks_ok (fun _ _ _=>pick_ix) a2,a3,a4.map (pickP_bld ps)⟩
   ·exact h6.imp fun _ a=>⟨a.1,picks_ok (fun _ _ _=>pick_ix) a.2.1,a.2.2⟩
  |row e d wr=>cases ri<;>exact h6
  |map kc e d=>cases ri<;>exact h6
  |diter e d seen=>cases ri<;>exact h6
  |iter m seen=>
   simp only [pickO] at hl ⊢
   cases hx:ixOf ps 0 m with
   |none=>rw [hx] at hl;simp [Ob.live] at hl
   |some k=>
    cases ri<;>simp only [OR] at h6<;>simp only [OR]
    obtain ⟨bm,borns,clock,ls,a1,a2⟩:=h6
    exact ⟨bm,borns,clock,ls,pick_ix hx a1,a2⟩
  |loop n qs c1 c2 s j=>
   cases ri<;>simp only [OR] at h6<;>simp only [pickO,OR]
   obtain ⟨r,a1,a2,a3⟩:=h6
   exact ⟨r,a1,a2,fun t=>by rw [pickS_look];exact pickP_ok (fun _ _ _=>pick_ix) 8 _ _ (a3 t)⟩
  |dead=>simp [pickO,Ob.live] at hl
 ·intro i j oi oj ri rj b hi hj hli hlj hEi hEj hbi hbj
  obtain ⟨r,o1,a1,a2,a3,a4⟩:=pick_blk hw hi hli hEi
  obtain ⟨r',o2,b1,b2,b3,b4⟩:=pick_blk hw hj hlj hEj
  have:=hw.sep r r' o1 o2 ri rj b a2 b2 a3 b3 a4 b4 hbi hbj
  subst this
  have hli:=(List.getElem?_eq_some_iff.1 a1).1
  exact (List.getElem?_inj hli hnd).1 (a1.trans b1.symm)
theorem OR.renO {f:Nat→Nat} {E2:List RI} {ri:RI} {o:Ob} (hf:∀ (i:Nat) x,E[i]? =some x→E2[f i]? =some x) (hl:(renO f o).live=true) (h:OR tt E Pp w ri o):OR tt E2 Pp w ri (renO f o):=by
 cases o with
 |box cs=>
  cases ri<;>simp only [OR] at h<;>simp only [VC.renO,OR]
  ·obtain ⟨vs,T,a1,a2,a3,a4⟩:=h
   exact ⟨vs,T,a1,renPs_ok hf a2,a3,a4.map (renP_bld f)⟩
  ·exact h.imp fun _ a=>⟨a.1,renPs_ok hf a.2.1,a.2.2⟩
 |row e d wr=>cases ri<;>exact h
 |map kc e d=>cases ri<;>exact h
 |diter e d seen=>cases ri<;>exact h
 |iter m seen=>simp [VC.renO,Ob.live] at hl
 |loop n qs c1 c2 s j=>
  cases ri<;>simp only [OR] at h<;>simp only [VC.renO,OR]
  obtain ⟨r,a1,a2,a3⟩:=h
  exact ⟨r,a1,a2,fun t=>by rw [renS_look];exact renP_ok hf 8 _ _ (a3 t)⟩
 |dead=>simp [VC.renO,Ob.live] at hl
theorem SimW.back {F:List Nat} (h:SimW tt B E Pp objs w) (hnd:F.Nodup) (hlt:∀ r∈F,r<objs.length) {E2:List RI} {Pp2:Per} {o2:List Ob} {w':World} (hpre:Eok (F.map fun r=>E.getD r .row0) E2)
 (hp:∀ ad v,Pp ad v→Pp2 ad v) (hw':WR tt E2 Pp2 o2 w') (hfr:Fr (own (F.map fun r=>E.getD r .row0) (mapL (fun r=>pickO F (getO objs r)) F)) w w')
 (hpn:PNew (own (F.map fun r=>E.getD r .row0) (mapL (fun r=>pickO F (getO objs r)) F)) w Pp Pp2) (hf:FreshO (own (F.map fun r=>E.getD r .row0) (mapL (fun r=>pickO F (getO objs r)) F)) w E2 o2):
 SimW tt B (putX F E E2) Pp2 (putF F (endIts F objs) (mapL (renO (backIx (lenL objs) F)) o2)) w'∧Eok E (putX F E E2)∧∀ (j:Nat) x,E2[j]? =some x→(putX F E E2)[backIx (lenL objs) F j]? =some x:=by
 have hl:=h.wr.len
 have hl2:=hw'.len
 rw [putF_eq,lenL_eq]
 have hF2:F.length≤E2.length:=by
  rcases Nat.lt_or_ge E2.length F.length with h'|h'
  ·exfalso
   have hx:(F.map fun r=>E.getD r .row0)[E2.length]? =some (E.getD F[E2.length] .row0):=by simp [h']
   rcases hpre _ _ hx with h1|⟨_,_,_,_,_,_,h1⟩<;>(have:=lt_of_get h1;omega)
  ·exact h'
 have hlt':∀ r∈F,r<E.length:=fun r hr=>by rw [hl];exact hlt r hr
 have hnew:∀ (j:Nat) x,E2[j]? =some x→(putX F E E2)[backIx objs.length F j]? =some x:=by
  intro j x hx
  rw [← hl];exact putX_new hnd hlt' hF2 hx
 have hold:∀ (i:Nat),i<E.length→i∉F→(putX F E E2)[i]? =E[i]? :=fun i hi hn=>putX_old hF2 hi hn
 have hE3:Eok E (putX F E E2):=by
  intro i x hx
  have hi:=lt_of_get hx
  by_cases hm:i∈F
  ·obtain ⟨k,hk⟩:=List.getElem?_of_mem hm
   have hix:backIx objs.length F k=i:=backIx_lt hk
   rcases hpre k x (pick_E hk hx) with h1|⟨b,n,c,n',c',rfl,h1⟩
   ·have:=hnew k x h1;rw [hix] at this;exact .inl this
   ·have:=hnew k _ h1;rw [hix] at this;exact .inr ⟨b,n,c,n',c',rfl,this⟩
  ·rw [hold i hi hm];exact .inl hx
 have own1:∀ b,own (F.map fun r=>E.getD r .row0) (mapL (fun r=>pickO F (getO objs r)) F) b→∃ r o ri,r∈F∧objs[r]? =some o∧o.live=true∧E[r]? =some ri∧ri.block? =some b:=by
  rintro b ⟨i,q,ri,h1,h2,h3,h4⟩
  obtain ⟨r,o',a1,a2,a3,a4⟩:=pick_blk h.wr h1 h2 h3
  exact ⟨r,o',ri,List.mem_of_getElem? a1,a2,a3,a4,h4⟩
 have frb:∀ b,own (F.map fun r=>E.getD r .row0) (mapL (fun r=>pickO F (getO objs r)) F) b→B.w0.heap.size≤b∨B.own0 b:=by
  intro b hb
  obtain ⟨r,o,ri,_,h2,h3,h4,h5⟩:=own1 b hb
  exact h.fresh r o ri b h2 h3 h4 h5
 have other:∀ (i:Nat) o ri b,i∉F→objs[i]? =some o→o.live=true→E[i]? =some ri→ri.block? =some b→b<w.heap.size∧¬own (F.map fun r=>E.getD r .row0) (mapL (fun r=>pickO F (getO objs r)) F) b:=by
  intro i o ri b hi h1 h2 h3 h4
  refine ⟨own_lt h.wr ⟨i,o,ri,h1,h2,h3,h4⟩,fun hb=> ?_⟩
  obtain ⟨r,o',ri',h5,h6,h7,h8,h9⟩:=own1 b hb
  have:=h.wr.sep i r o o' ri ri' b h1 h6 h2 h7 h3 h8 h4 h9
  subst this
  exact hi h5
 have hF3:F.length≤(mapL (renO (backIx objs.length F)) o2).length:=by rw [mapL_length,←hl2];exact hF2
 have hlt3:∀ r∈F,r<(endIts F objs).length:=fun r hr=>by rw [endIts_length];exact hlt r hr
 have cases3:∀ (i:Nat) o,(putX F (endIts F objs) (mapL (renO (backIx objs.length F)) o2))[i]? =some o→o.live=true→
  (i<objs.length∧i∉F∧objs[i]? =some o∧∀ m s,o= .iter m s→m∉F)∨∃ j o',i=backIx objs.length F j∧o2[j]? =some o'∧o'.live=true∧o=renO (backIx objs.length F) o':=by
  intro i o ho hlv
  rcases putX_cases hlt3 hF3 hnd ho with ⟨h1,h2,h3⟩|⟨j,h1,h2⟩
  ·rw [endIts_length] at h1
   obtain ⟨h4,h5⟩:=endIts_live h3 hlv
   exact .inl ⟨h1,h2,h4,h5⟩
  ·rw [endIts_length] at h1
   rw [mapL_eq,List.getElem?_map] at h2
   cases hx:o2[j]? with
   |none=>rw [hx] at h2;simp at h2
   |some o'=>
    rw [hx] at h2
    simp only [Option.map_some,Option.some.injEq] at h2
    refine .inr ⟨j,o',h1,hx,?_,h2.symm⟩
    cases o'<;>first|rfl|(subst h2;simp [renO,Ob.live] at hlv)
 refine ⟨⟨⟨?_,hw'.pi,?_,?_,hw'.gl⟩,h.pre.trans hE3,fun ad v hv=>hp _ _ (h.per ad v hv),?_,?_,?_⟩,hE3,hnew⟩
 ·have h1:=putX_len (F:=F) (l:=E) (xs:=E2) hF2
  have h2:=putX_len (F:=F) (l:=endIts F objs) (xs:=mapL (renO (backIx objs.length F)) o2) hF3
  rw [endIts_length,mapL_length] at h2
  omega
 ·intro i o ho hlv
  rcases cases3 i o ho hlv with ⟨h1,h2,h3,h4⟩|⟨j,o',rfl,h2,h3,rfl⟩
  ·obtain ⟨ri,hri,hor⟩:=h.wr.ob i o h3 hlv
   refine ⟨ri,by rw [hold i (by omega) h2];exact hri,OR.frameK hE3 ?_ hp ?_ ?_ hor⟩
   ·intro m s e x hx
    rw [hold m (lt_of_get hx) (h4 m s e)];exact hx
   ·intro b hb
    obtain ⟨h5,h6⟩:=other i o ri b h2 h3 hlv hri hb
    exact hfr.block b h5 h6
   ·intro b hb ad v hv he
    obtain ⟨h5,h6⟩:=other i o ri b h2 h3 hlv hri hb
    rcases hpn ad v hv with h7|h7|h7
    ·exact h7
    ·omega
    ·rw [he] at h7;exact absurd h7 h6
  ·obtain ⟨ri,hri,hor⟩:=hw'.ob j o' h2 h3
   exact ⟨ri,hnew j ri hri,OR.renO hnew hlv hor⟩
 ·intro i j oi oj ri rj b hi hj hli hlj hEi hEj hbi hbj
  rcases cases3 i oi hi hli with ⟨h1,h2,h3,_⟩|⟨i',oi',rfl,h2,h3,rfl⟩<;>rcases cases3 j oj hj hlj with ⟨k1,k2,k3,_⟩|⟨j',oj',rfl,k2,k3,rfl⟩
  ·rw [hold i (by omega) h2] at hEi
   rw [hold j (by omega) k2] at hEj
   exact h.wr.sep i j oi oj ri rj b h3 k3 hli hlj hEi hEj hbi hbj
  ·rw [hold i (by omega) h2] at hEi
   obtain ⟨h5,h6⟩:=other i oi ri b h2 h3 hli hEi hbi
   obtain ⟨rj',hrj',_⟩:=hw'.ob j' oj' k2 k3
   have:=hnew j' rj' hrj'
   rw [hEj] at this;cases this
   rcases hf j' oj' rj b k2 k3 hrj' hbj with h7|h7
   ·omega
   ·exact absurd h7 h6
  ·rw [hold j (by omega) k2] at hEj
   obtain ⟨h5,h6⟩:=other j oj rj b k2 k3 hlj hEj hbj
   obtain ⟨ri',hri',_⟩:=hw'.ob i' oi' h2 h3
   have:=hnew i' ri' hri'
   rw [hEi] at this;cases this
   rcases hf i' oi' ri b h2 h3 hri' hbi with h7|h7
   ·omega
   ·exact absurd h7 h6
  ·obtain ⟨ri',hri',_⟩:=hw'.ob i' oi' h2 h3
   have e1:=hnew i' ri' hri'
   rw [hEi] at e1;cases e1
   obtain ⟨rj',hrj',_⟩:=hw'.ob j' oj' k2 k3
   have e2:=hnew j' rj' hrj'
   rw [hEj] at e2;cases e2
   rw [hw'.sep i' j' oi' oj' ri rj b h2 k2 h3 k3 hri' hrj' hbi hbj]
 ·refine h.fr.trans hfr (fun x hx hox=> ?_)
  rcases frb x hox with h1|h1
  ·omega
  ·exact h1
 ·intro ad v hv
  rcases hpn ad v hv with h1|h1|h1
  ·exact h.pnew ad v h1
  ·exact .inr (.inl (Nat.le_trans h.fr.size h1))
  ·exact .inr (frb _ h1)
 ·intro i o ri b ho hlv hE hb
  rcases cases3 i o ho hlv with ⟨h1,h2,h3,_⟩|⟨j,o',rfl,h2,h3,rfl⟩
  ·rw [hold i (by omega) h2] at hE
   exact h.fresh i o ri b h3 hlv hE hb
  ·obtain ⟨ri',hri',_⟩:=hw'.ob j o' h2 h3
   have:=hnew j ri' hri'
   rw [hE] at this;cases this
   rcases hf j o' ri b h2 h3 hri' hb with h7|h7
   ·exact .inl (Nat.le_trans h.fr.size h7)
   ·exact frb b h7
theorem look_hurtS (F:List Nat) (s:Slots) (t:Nat):look (hurtS F objs s) t=look s t∨(look (hurtS F objs s) t=frz objs 8 (look s t)∧∀ i∈ids objs 8 (look s t),i∈F)∨look (hurtS F objs s) t= .undef:=by
 induction s with
 |nil=>exact .inl rfl
 |cons x s ih=>
  obtain ⟨k,p⟩:=x
  simp only [hurtS,look]
  cases nb k t with
  |false=>simpa using ih
  |true=>
   simp only [cond_true]
   cases anyL (fun b=>(match getO objs b with| .box _=>men b 8 p|_=>false)) F with
   |false=>exact .inl rfl
   |true=>
    cases hc:allL (fun i=>memL i F) (ids objs 8 p) with
    |false=>exact .inr (.inr rfl)
    |true=>
     refine .inr (.inl ⟨rfl,fun i hi=> ?_⟩)
     rw [allL_eq,List.all_eq_true] at hc
     exact (memL_eq i F).1 (hc i hi)
theorem hurtS_ok (hw:WR tt E Pp objs w) {F:List Nat} {s:Slots} (hs:∀ t,VR tt E Pp (a.tmps.getD t undef) (look s t)):
 ∀ t,VR tt E (hurtP tt E objs w Pp F) (a.tmps.getD t undef) (look (hurtS F objs s) t):=by
 intro t
 rcases look_hurtS (objs:=objs) F s t with h|⟨h,hi⟩|h
 ·rw [h];exact (hs t).mono (fun _ _ h=>h) (fun _ _ h=>.inl h)
 ·rw [h];exact (frz_ok hw 8 _ _ (hs t) hi).of_nil E
 ·rw [h];exact .undef _
theorem app_get {α:Type} {l k:List α} {i:Nat} {x:α} (h:(l++k)[i]? =some x):(i<l.length∧l[i]? =some x)∨∃ j,i=l.length+j∧k[j]? =some x:=by
 rcases Nat.lt_or_ge i l.length with h'|h'
 ·rw [List.getElem?_append_left h'] at h;exact .inl ⟨h',h⟩
 ·rw [List.getElem?_append_right h'] at h;exact .inr ⟨i-l.length,by omega,h⟩
theorem app_left {α:Type} {l k:List α} {i:Nat} {x:α} (h:l[i]? =some x):(l++k)[i]? =some x:=by
 rw [List.getElem?_append_left]
 ·exact h
 ·rcases Nat.lt_or_ge i l.length with h'|h'
  ·exact h'
  ·rw [List.getElem?_eq_none h'] at h;simp at h
theorem app_right {α:Type} {l k:List α} {j:Nat} {x:α} (h:k[j]? =some x):(l++k)[l.length+j]? =some x:=by
 rw [List.getElem?_append_right (by omega)];simpa using h
theorem OR.goes {E':List RI} {ri:RI} {o:Ob} (hg:goesO o=true) (hl:o.live=true) (h:OR tt E Pp w ri o):OR tt E' Pp w ri o:=by
 cases o<;>simp [goesO,Ob.live] at hg hl
 ·cases ri<;>exact h
 ·cases ri<;>exact h
theorem goes_all {l:List Ob} (h:allL goesO l=true) {i:Nat} {o:Ob} (ho:l[i]? =some o):goesO o=true:=by
 rw [allL_eq,List.all_eq_true] at h
 exact h o (List.mem_of_getElem? ho)
theorem SimW.joined {Pp1 Pp':Per} {w':World} {objs1 objs':List Ob} {E':List RI} (h:SimW tt B E Pp' objs1 w') (hw':WR tt E' Pp' objs' w') (hg:allL goesO objs'=true)
 (hold:∀ b,own E objs1 b→b<w.heap.size) (hsz:B.w0.heap.size≤w.heap.size) (hf:FreshO (own [] []) w E' objs'):SimW tt B (E++E') Pp' (objs1++objs') w':=by
 have hl:=h.wr.len
 have new:∀ (j:Nat) o ri b,objs'[j]? =some o→o.live=true→E'[j]? =some ri→ri.block? =some b→w.heap.size≤b:=by
  intro j o ri b h1 h2 h3 h4
  rcases hf j o ri b h1 h2 h3 h4 with h5|h5
  ·exact h5
  ·exact (own_nil h5).elim
 refine ⟨⟨by simp [hl,hw'.len],hw'.pi,?_,?_,hw'.gl⟩,h.pre.trans (.of fun _ _=>app_left),h.per,h.fr,h.pnew,?_⟩
 ·intro i o ho hlv
  rcases app_get ho with ⟨_,h1⟩|⟨j,rfl,h1⟩
  ·obtain ⟨ri,hri,hor⟩:=h.wr.ob i o h1 hlv
   exact ⟨ri,app_left hri,OR.frame (fun _ _=>app_left) (fun _ _ h=>h) (fun _ _=>rfl) (fun _ _ _ _ h _=>h) hor⟩
  ·obtain ⟨ri,hri,hor⟩:=hw'.ob j o h1 hlv
   exact ⟨ri,by rw [← hl];exact app_right hri,hor.goes (goes_all hg h1) hlv⟩
 ·intro i j oi oj ri rj b hi hj hli hlj hEi hEj hbi hbj
  rcases app_get hi with ⟨l1,h1⟩|⟨i',rfl,h1⟩<;>rcases app_get hj with ⟨l2,h2⟩|⟨j',rfl,h2⟩
  ·rw [List.getElem?_append_left (by omega)] at hEi hEj
   exact h.wr.sep i j oi oj ri rj b h1 h2 hli hlj hEi hEj hbi hbj
  ·rw [List.getElem?_append_left (by omega)] at hEi
   rw [← hl,List.getElem?_append_right (by omega)] at hEj
   have:=hold b ⟨i,oi,ri,h1,hli,hEi,hbi⟩
   have:=new j' oj rj b h2 hlj (by simpa using hEj) hbj
   omega
  ·rw [List.getElem?_append_left (by omega)] at hEj
   rw [← hl,List.getElem?_append_right (by omega)] at hEi
   have:=hold b ⟨j,oj,rj,h2,hlj,hEj,hbj⟩
   have:=new i' oi ri b h1 hli (by simpa using hEi) hbi
   omega
  ·rw [← hl,List.getElem?_append_right (by omega)] at hEi hEj
   have:=hw'.sep i' j' oi oj ri rj b h1 h2 hli hlj (by simpa using hEi) (by simpa using hEj) hbi hbj
   omega
 ·intro i o ri b ho hlv hE hb
  rcases app_get ho with ⟨l1,h1⟩|⟨i',rfl,h1⟩
  ·rw [List.getElem?_append_left (by omega)] at hE
   exact h.fresh i o ri b h1 hlv hE hb
  ·rw [← hl,List.getElem?_append_right (by omega)] at hE
   exact .inl (Nat.le_trans hsz (new i' o ri b h1 hlv (by simpa using hE) hb))
theorem hurtP_nil {ad:Addr} {v:Value} (h:hurtP tt E objs w Pp [] ad v):Pp ad v:=by
 rcases h with h|⟨_,i,hi,_⟩
 ·exact h
 ·simp at hi
theorem isEmptyL_eq {l:List Nat} (h:isEmptyL l=true):l=[]:=by cases l<;>simp_all [isEmptyL]
theorem SimW.kept {Pp':Per} {w':World} {E':List RI} {r:Nat} {ob0 ob:Ob} {ri:RI} {more:List Ob} (h:SimW tt B E Pp objs w) (ho:objs[r]? =some ob0) (hl0:ob0.live=true) (hr:E[r]? =some ri)
 (hw':WR tt (ri::E') Pp' (ob::more) w') (hg0:goesO ob=true) (hg:allL goesO more=true) (hp:∀ ad v,Pp ad v→Pp' ad v)
 (hfr:Fr (own [ri] [ob0]) w w') (hpn:PNew (own [ri] [ob0]) w Pp Pp') (hf:FreshO (own [ri] [ob0]) w (ri::E') (ob::more)):SimW tt B (E++E') Pp' (objs.set r ob++more) w':=by
 have hl:=h.wr.len
 have ownr:∀ b,own [ri] [ob0] b→ri.block? =some b:=by
  rintro b ⟨i,o,r',h1,h2,h3,h4⟩
  cases i with
  |zero=>simp at h1 h3;subst h1 h3;exact h4
  |succ i=>simp at h1
 have frb:∀ b,ri.block? =some b→B.w0.heap.size≤b∨B.own0 b:=fun b hb=>h.fresh r ob0 ri b ho hl0 hr hb
 have hlr:r<objs.length:=by
  rcases Nat.lt_or_ge r objs.length with h'|h'
  ·exact h'
  ·rw [List.getElem?_eq_none h'] at ho;simp at ho
 have old:∀ (j:Nat) o rj b,j≠r→objs[j]? =some o→o.live=true→E[j]? =some rj→rj.block? =some b→b<w.heap.size∧ri.block? ≠some b:=by
  intro j o rj b hj h1 h2 h3 h4
  exact ⟨own_lt h.wr ⟨j,o,rj,h1,h2,h3,h4⟩,fun h5=>hj (h.wr.sep j r o ob0 rj ri b h1 ho h2 hl0 h3 hr h4 h5)⟩
 have new:∀ (j:Nat) o rj b,more[j]? =some o→o.live=true→E'[j]? =some rj→rj.block? =some b→w.heap.size≤b∨ri.block? =some b:=by
  intro j o rj b h1 h2 h3 h4
  rcases hf (j+1) o rj b (by simpa using h1) h2 (by simpa using h3) h4 with h5|h5
  ·exact .inl h5
  ·exact .inr (ownr b h5)
 have setg:∀ (j:Nat) o,(objs.set r ob)[j]? =some o→(j=r∧o=ob)∨(j≠r∧objs[j]? =some o):=by
  intro j o hj
  by_cases hjr:j=r
  ·subst hjr;rw [List.getElem?_set_self hlr] at hj;simp at hj;exact .inl ⟨rfl,hj.symm⟩
  ·rw [List.getElem?_set_ne (Ne.symm hjr)] at hj;exact .inr ⟨hjr,hj⟩
 have len':=hw'.len
 simp only [List.length_cons] at len'
 refine ⟨⟨by simp [hl];omega,hw'.pi,?_,?_,hw'.gl⟩,h.pre.trans (.of fun _ _=>app_left),fun ad v hv=>hp _ _ (h.per ad v hv),?_,?_,?_⟩
 ·intro i o hi hlv
  rcases app_get hi with ⟨_,h1⟩|⟨j,rfl,h1⟩
  ·rcases setg i o h1 with ⟨rfl,rfl⟩|⟨hne,h2⟩
   ·obtain ⟨r',hr',hor⟩:=hw'.ob 0 o rfl hlv
    simp at hr';subst hr'
    exact ⟨ri,app_left hr,hor.goes hg0 hlv⟩
   ·obtain ⟨rj,hrj,hor⟩:=h.wr.ob i o h2 hlv
    refine ⟨rj,app_left hrj,OR.frame (fun _ _=>app_left) hp ?_ ?_ hor⟩
    ·intro b hb
     obtain ⟨h3,h4⟩:=old i o rj b hne h2 hlv hrj hb
     exact hfr.block b h3 (fun h5=>h4 (ownr b h5))
    ·intro b hb ad v hv he
     obtain ⟨h3,h4⟩:=old i o rj b hne h2 hlv hrj hb
     rcases hpn ad v hv with h5|h5|h5
     ·exact h5
     ·omega
     ·exact absurd (ownr _ h5) (by rw [he];exact h4)
  ·obtain ⟨rj,hrj,hor⟩:=hw'.ob (j+1) o (by simpa using h1) hlv
   simp at hrj
   refine ⟨rj,?_,hor.goes (goes_all hg h1) hlv⟩
   rw [List.length_set,←hl];exact app_right hrj
 ·intro i j oi oj ri' rj b hi hj hli hlj hEi hEj hbi hbj
  rcases app_get hi with ⟨l1,h1⟩|⟨i',rfl,h1⟩<;>rcases app_get hj with ⟨l2,h2⟩|⟨j',rfl,h2⟩
  ·rw [List.length_set] at l1 l2
   rw [List.getElem?_append_left (by omega)] at hEi hEj
   rcases setg i oi h1 with ⟨rfl,rfl⟩|⟨hne,h3⟩<;>rcases setg j oj h2 with ⟨rfl,rfl⟩|⟨hne',h4⟩
   ·rfl
   ·rw [hr] at hEi;cases hEi
    exact absurd hbi (old j oj rj b hne' h4 hlj hEj hbj).2
   ·rw [hr] at hEj;cases hEj
    exact absurd hbj (old i oi ri' b hne h3 hli hEi hbi).2
   ·exact h.wr.sep i j oi oj ri' rj b h3 h4 hli hlj hEi hEj hbi hbj
  ·rw [List.length_set] at l1
   rw [List.getElem?_append_left (by omega)] at hEi
   rw [List.length_set,←hl,List.getElem?_append_right (by omega)] at hEj
   have hEj':E'[j']? =some rj:=by simpa using hEj
   rcases setg i oi h1 with ⟨rfl,rfl⟩|⟨hne,h3⟩
   ·rw [hr] at hEi;cases hEi
    have:=hw'.sep 0 (j'+1) oi oj ri rj b rfl (by simpa using h2) hli hlj rfl (by simpa using hEj') hbi hbj
    omega
   ·have h5:=old i oi ri' b hne h3 hli hEi hbi
    rcases new j' oj rj b h2 hlj hEj' hbj with h6|h6
    ·omega
    ·exact absurd h6 h5.2
  ·rw [List.length_set] at l2
   rw [List.getElem?_append_left (by omega)] at hEj
   rw [List.length_set,←hl,List.getElem?_append_right (by omega)] at hEi
   have hEi':E'[i']? =some ri':=by simpa using hEi
   rcases setg j oj h2 with ⟨rfl,rfl⟩|⟨hne,h3⟩
   ·rw [hr] at hEj;cases hEj
    have:=hw'.sep (i'+1) 0 oi oj ri' ri b (by simpa using h1) rfl hli hlj (by simpa using hEi') rfl hbi hbj
    omega
   ·have h5:=old j oj rj b hne h3 hlj hEj hbj
    rcases new i' oi ri' b h1 hli hEi' hbi with h6|h6
    ·omega
    ·exact absurd h6 h5.2
  ·rw [List.length_set,←hl,List.getElem?_append_right (by omega)] at hEi hEj
   have:=hw'.sep (i'+1) (j'+1) oi oj ri' rj b (by simpa using h1) (by simpa using h2) hli hlj (by simpa using hEi) (by simpa using hEj) hbi hbj
   omega
 ·refine h.fr.trans hfr (fun x hx hox=> ?_)
  rcases frb x (ownr x hox) with h1|h1
  ·omega
  ·exact h1
 ·intro ad v hv
  rcases hpn ad v hv with h1|h1|h1
  ·exact h.pnew ad v h1
  ·exact .inr (.inl (Nat.le_trans h.fr.size h1))
  ·exact .inr (frb _ (ownr _ h1))
 ·intro i o ri' b hi hlv hE hb
  rcases app_get hi with ⟨l1,h1⟩|⟨i',rfl,h1⟩
  ·rw [List.length_set] at l1
   rw [List.getElem?_append_left (by omega)] at hE
   rcases setg i o h1 with ⟨rfl,rfl⟩|⟨hne,h3⟩
   ·rw [hr] at hE;cases hE;exact frb b hb
   ·exact h.fresh i o ri' b h3 hlv hE hb
  ·rw [List.length_set,←hl,List.getElem?_append_right (by omega)] at hE
   rcases new i' o ri' b h1 hlv (by simpa using hE) hb with h4|h4
   ·exact .inl (Nat.le_trans h.fr.size h4)
   ·exact frb b h4
theorem live_ok (h:SimW tt B E Pp objs w) (hs:∀ t,VR tt E Pp (a.tmps.getD t undef) (look st.s t)) {args:List PV} {vals:List Value} (hv:VRL tt E Pp vals args) {F:List Nat} (hnd:F.Nodup) (hlt:∀ r∈F,r<objs.length) {K:PV→St→Prop}:
 WR tt (F.map fun r=>E.getD r .row0) Pp (mapL (fun r=>pickO F (getO objs r)) F) w∧VRL tt (F.map fun r=>E.getD r .row0) Pp vals (mapL (pickP F 8) args)∧
 ∀ e w',FCPost tt (F.map fun r=>E.getD r .row0) Pp (mapL (fun r=>pickO F (getO objs r)) F) w (fun v o'=>K (renP (backIx (lenL objs) F) 8 v) ⟨st.s,putF F (endIts F objs) (mapL (renO (backIx (lenL objs) F)) o')⟩) e w'→
  ∃ v pv s' o' E' Pp',e= .returned v∧VR tt E' Pp' v pv∧(∀ t,VR tt E' Pp' (a.tmps.getD t undef) (look s' t))∧SimW tt B E' Pp' o' w'∧K pv ⟨s',o'⟩∧(∀ ad v,Pp ad v→Pp' ad v)∧Eok E E'∧s'=st.s:=by
 refine ⟨h.wr.pick hnd,picks_ok (fun _ _ _=>pick_ix) hv,?_⟩
 rintro e w' ⟨v,E2,Pp2,o2,pv,rfl,hpre,hp,hw',hvr,hK,hfr,hpn,hf⟩
 obtain ⟨h1,h2,h3⟩:=SimW.back h hnd hlt hpre hp hw' hfr hpn hf
 exact ⟨v,_,st.s,_,_,Pp2,rfl,renP_ok h3 8 _ _ hvr,fun t=>(VR.mono_all h2 hp).1 (hs t),h1,hK,hp,h2,rfl⟩
theorem reach_head':∀ (n:Nat) (todo seen:List Nat) (i:Nat),seen[0]? =some i→(reach objs n todo seen)[0]? =some i
 |0,_,_,_,h=>h
 |_+1,[],_,_,h=>h
 |n+1,x::todo,seen,i,h=>by
  simp only [reach]
  cases memL x seen with
  |true=>exact reach_head' n _ _ _ h
  |false=>
   refine reach_head' n _ _ _ ?_
   rw [appL_eq]
   exact app_left h
theorem reach_head (n:Nat) (i:Nat) (todo:List Nat):(reach objs (n+1) (i::todo) [])[0]? =some i:=by
 simp only [reach,memL,cond_false]
 exact reach_head' n _ _ _ rfl
theorem allLt {F:List Nat} {n:Nat} (h:allL (fun r=>nlt r n) F=true):∀ r∈F,r<n:=by
 rw [allL_eq,List.all_eq_true] at h
 exact fun r hr=>nle_of (h r hr)
theorem liveC_ok {G:Cfg} (h:SimW tt B E Pp st.o w) (hs:∀ t,VR tt E Pp (a.tmps.getD t undef) (look st.s t)) {f:FuncId} {args:List PV} {vals:List Value} (hv:VRL tt E Pp vals args)
 {K:PV→St→Prop} (hc:liveC G (FCx P tt) f args st K):
 Invokes P f vals w fun e w'=>∃ v pv s' o' E' Pp',e= .returned v∧VR tt E' Pp' v pv∧(∀ t,VR tt E' Pp' (a.tmps.getD t undef) (look s' t))∧SimW tt B E' Pp' o' w'∧K pv ⟨s',o'⟩∧(∀ ad v,Pp ad v→Pp' ad v):=by
 have key:∀ {Pp0:Per} {o1:List Ob} {as:List PV} {F:List Nat},SimW tt B E Pp0 o1 w→(∀ t,VR tt E Pp0 (a.tmps.getD t undef) (look st.s t))→VRL tt E Pp0 vals as→(∀ ad v,Pp ad v→Pp0 ad v)→liveC2 (FCx P tt) (.fn f) as st.s o1 F K→
  Invokes P f vals w fun e w'=>∃ v pv s' o' E' Pp',e= .returned v∧VR tt E' Pp' v pv∧(∀ t,VR tt E' Pp' (a.tmps.getD t undef) (look s' t))∧SimW tt B E' Pp' o' w'∧K pv ⟨s',o'⟩∧(∀ ad v,Pp ad v→Pp' ad v):=by
  intro Pp0 o1 as F h1 hs1 hv1 hp1 hc
  unfold liveC2 at hc
  cases hb:(nodupL F&&allL (fun r=>nlt r (lenL o1)) F) with
  |false=>rw [hb] at hc;exact hc.elim
  |true=>
   rw [hb] at hc
   simp only [Bool.and_eq_true,lenL_eq] at hb
   have hl:=live_ok (K:=K) h1 hs1 hv1 (nodupL_eq hb.1) (allLt hb.2)
   refine (hc _ _ w vals hl.1 hl.2.1).mono fun e w' hq=> ?_
   obtain ⟨v,pv,s',o',E',Pp',q1,q2,q3,q4,q5,q6,_⟩:=hl.2.2 e w' hq
   exact ⟨v,pv,s',o',E',Pp',q1,q2,q3,q4,q5,fun ad u hu=>q6 _ _ (hp1 _ _ hu)⟩
 unfold liveC at hc
 split at hc
 ·exact key h hs hv (fun _ _ h=>h) hc
 ·exact key (h.hurt (catL (rowsIn 8) args)) (fun t=>(hs t).mono (fun _ _ h=>h) (fun _ _ h=>.inl h)) (frzRs_ok h.wr hv (fun i hi=>hi)) (fun _ _ h=>.inl h) hc
theorem callC_ok {G:Cfg} (hG:G.tt=tt) (h:SimW tt B E Pp st.o w) (hs:∀ t,VR tt E Pp (a.tmps.getD t undef) (look st.s t)) {kp:Bool} {f:FuncId} {args:List PV} {vals:List Value} (hv:VRL tt E Pp vals args)
 {K:PV→St→Prop} (hc:callC G (FCx P tt) kp f args st K):
 Invokes P f vals w fun e w'=>∃ v pv s' o' E' Pp',e= .returned v∧VR tt E' Pp' v pv∧(∀ t,VR tt E' Pp' (a.tmps.getD t undef) (look s' t))∧SimW tt B E' Pp' o' w'∧K pv ⟨s',o'⟩∧
  ((kp&&memL f G.keep)=false→memL f G.live=false→∀ ad v,Held tt E Pp st.o w ad v→Held tt E' Pp' o' w' ad v)∧(∀ ad v,Pp ad v→Pp' ad v):=by
 unfold callC at hc
 cases hlv:memL f G.live with
 |true=>
  rw [hlv] at hc
  refine (liveC_ok (a:=a) h hs hv hc).mono fun e w'=> ?_
  rintro ⟨v,pv,s',o',E',Pp',q1,q2,q3,q4,q5,q6⟩
  exact ⟨v,pv,s',o',E',Pp',q1,q2,q3,q4,q5,(fun _ hf=>nomatch hf),q6⟩
 |false=>
 rw [hlv] at hc
 simp only at hc
 cases hk:(kp&&memL f G.keep) with
 |true=>
  rw [hk] at hc
  simp only [cond_true] at hc
  split at hc
  ·rename_i e r rest
   split at hc
   ·rename_i e' d ho
    cases hb:(nb e e'&&isEmptyL (catL (ids st.o 8) rest)) with
    |false=>rw [hb] at hc;exact hc.elim
    |true=>
     rw [hb] at hc
     simp only [Bool.and_eq_true] at hb
     have he:=nb_of hb.1
     subst he
     have hids:=isEmptyL_eq hb.2
     have ho':=getO_live ho rfl
     obtain ⟨ri,hri,hor⟩:=h.wr.ob r _ ho' rfl
     cases hv with
     |cons v0 _ vr _ hv0 hvr=>
      have hargs:=frzs_ok (n:=8) h.wr (F:=[]) hvr (fun i hi=>by rw [hids] at hi;exact hi)
      have hw1:WR tt [ri] Pp [.row e d true] w:=by
       refine ⟨rfl,h.wr.pi,?_,?_,h.wr.gl⟩
       ·intro i o hi hlv
        cases i with
        |zero=>simp at hi;subst hi;exact ⟨ri,rfl,hor.goes rfl rfl⟩
        |succ i=>simp at hi
       ·intro i j oi oj ri rj b hi hj
        cases i<;>cases j<;>simp at hi hj
        intros;rfl
      have hv1:VR tt [ri] Pp v0 (.row e 0):=by
       cases hv0 with
       |row0 _ _ hE=>rw [hri] at hE;cases hE;exact .row0 _ _ rfl
       |row _ _ g o len cap hE=>rw [hri] at hE;cases hE;exact .row _ _ _ _ _ _ rfl
      refine (hc [ri] Pp w _ hw1 (.cons _ _ _ _ hv1 ((hargs.mono (fun _ _ h=>h) (fun _ _=>hurtP_nil)).of_nil _))).mono ?_
      rintro ee w' ⟨v,E',Pp',objs',pv,rfl,hpre,hp,hw',hvr',hK,hfr,hpn,hfresh⟩
      split at hK
      ·rename_i ob more
       cases hg:(goesO ob&&allL goesO more) with
       |false=>rw [hg] at hK;exact hK.elim
       |true=>
        rw [hg] at hK
        simp only [Bool.and_eq_true] at hg
        cases E' with
        |nil=>rcases hpre 0 _ rfl with h'|⟨_,_,_,_,_,_,h'⟩<;>simp at h'
        |cons ri' E'=>
         have:ri'=ri:=by
          rcases hpre 0 _ rfl with h'|⟨b,n,c,n',c',e1,h'⟩
          ·simp at h';exact h'
          ·subst e1;cases hor
         subst this
         have hS:=SimW.kept h ho' rfl hri hw' hg.1 hg.2 hp hfr hpn hfresh
         refine ⟨v,_,st.s,_,E++E',Pp',rfl,?_,?_,?_,hK,fun hf=>by simp at hf,hp⟩
         ·refine ren_ok ?_ 8 pv v hvr'
          intro i x hx
          cases i with
          |zero=>simp at hx;subst hx;exact app_left hri
          |succ i=>
           simp at hx
           show (E++E')[lenL st.o+i]? =some x
           rw [lenL_eq,←h.wr.len]
           exact app_right hx
         ·intro t;exact (hs t).mono (fun _ _=>app_left) hp
         ·rw [appL_eq,setO_eq];exact hS
      ·exact hK.elim
   ·exact hc.elim
  ·exact hc.elim
 |false=>
  rw [hk] at hc
  simp only [cond_false] at hc
  have hargs:=frzs_ok (n:=8) h.wr (F:=catL (ids st.o 8) args) hv (fun i hi=>hi)
  have hwn:WR tt [] (hurtP tt E st.o w Pp (catL (ids st.o 8) args)) [] w:=WR.nil (fun ad v hv=>hurtP_lt h.wr hv) (h.wr.glM fun _ _ hv=>.inl hv)
  refine (hc [] _ w vals hwn hargs).mono ?_
  rintro e w' ⟨v,E',Pp',objs',pv,rfl,_,hp,hw',hvr,hK,hfr,hpn,hfresh⟩
  have hold:∀ k,k<w.heap.size→w'.heap[k]? =w.heap[k]? :=fun k hk=>hfr.block k hk (fun h=>own_nil h)
  cases hg:allL goesO objs' with
  |false=>rw [hg] at hK;exact hK.elim
  |true=>
   rw [hg] at hK
   simp only [cond_true] at hK
   cases hpl:plain 8 pv with
   |true=>
    rw [hpl] at hK
    refine ⟨v,pv,st.s,st.o,E,Pp,rfl,plain_ok 8 _ _ hpl hvr,hs,?_,hK,?_,fun _ _ h=>h⟩
    ·refine SimW.called h (fun _ _ h=>h) hfr ?_ (fun _ _ h=>.inl h)
     intro ad u hu
     exact hw'.pi _ _ (hp _ _ (.inl hu))
    ·intro _ _ ad u hu
     simpa using hu.grow (E2:=[]) (objs2:=[]) h.wr.len (fun _ _ h=>h) hold
   |false=>
    rw [hpl] at hK
    simp only [cond_false] at hK
    cases hfl:(memL f G.frs&&flatRow G.tt pv objs') with
    |true=>
     rw [hfl] at hK
     simp only at hK
     rw [Bool.and_eq_true] at hfl
     rw [hG] at hfl
     obtain ⟨e,d,rfl,rfl,hck⟩:∃ e d,pv= .row e 0∧objs'=[.row e d true]∧∀ ck∈cksOf tt e,flatCk ck=true:=by
      have h0:=hfl.2
      unfold flatRow at h0
      split at h0
      ·rename_i e e' d
       rw [Bool.and_eq_true] at h0
       have:=nb_of h0.1
       subst this
       exact ⟨e,d,rfl,rfl,fun ck hm=>by have:=h0.2;rw [allL_eq] at this;exact List.all_eq_true.1 this ck hm⟩
      ·cases h0
     have hpi:∀ ad u,Pp ad u→pc w' ad=some u:=fun ad u hu=>hw'.pi _ _ (hp _ _ (.inl hu))
     have h2:SimW tt B E Pp st.o w':=SimW.called h (fun _ _ h=>h) hfr hpi (fun _ _ h=>.inl h)
     have hw2:WR tt E' Pp [.row e d true] w':=by
      refine ⟨hw'.len,hpi,?_,hw'.sep,h.wr.gl⟩
      intro i o ho hlv
      obtain ⟨ri,hri,hor⟩:=hw'.ob i o ho hlv
      refine ⟨ri,hri,?_⟩
      cases i with
      |succ i=>simp at ho
      |zero=>
       simp at ho;subst ho
       cases ri with
       |row0=>exact hor
       |row g o len cap=>
        obtain ⟨us,T,rows,a1,a2,a3,a4,a5,a6,a7,a8⟩:=hor
        refine ⟨us,T,rows,a1,a2,a3,a4,a5,?_,fun _=>fun ad u hu=>a7 rfl ad u (hp _ _ (.inl hu)),fun h=>by cases h⟩
        intro i row hi
        obtain ⟨b1,b2⟩:=a6 i row hi
        refine ⟨b1,fun j x ck hj hk=> ?_⟩
        obtain ⟨u,c1,c2⟩:=b2 j x ck hj hk
        refine ⟨u,c1,?_⟩
        have:=hck ck (List.mem_of_getElem? hk)
        cases c2<;>simp [flatCk] at this<;>constructor
       |_=>cases hor
     have h3:=SimW.joined (w:=w) (Pp1:=Pp) h2 hw2 hg (fun b hb=>own_lt h.wr hb) h.fr.size hfresh
     have hvr2:VR tt E' Pp v (.row e 0):=by
      cases hvr with
      |row0 _ _ hE=>exact .row0 _ _ hE
      |row _ _ g o len cap hE=>exact .row _ _ _ _ _ _ hE
     refine ⟨v,_,st.s,_,E++E',Pp,rfl,?_,fun t=>(hs t).mono (fun _ _=>app_left) (fun _ _ h=>h),?_,hK,?_,fun _ _ h=>h⟩
     ·refine ren_ok ?_ 8 _ v hvr2
      intro i x hx
      show (E++E')[lenL st.o+i]? =some x
      rw [lenL_eq,←h.wr.len]
      exact app_right hx
     ·rw [appL_eq];exact h3
     ·intro _ _ ad u hu
      rw [appL_eq]
      exact hu.grow h.wr.len (fun _ _ h=>h) hold
    |false=>
    rw [hfl] at hK
    simp only at hK
    have h1:=h.hurt (catL (ids st.o 8) args)
    have h2:=SimW.called h1 hp hfr hw'.pi hpn
    have h3:=SimW.joined (w:=w) (Pp1:=Pp') h2 hw' hg (fun b hb=>own_lt h1.wr hb) h.fr.size hfresh
    refine ⟨v,_,_,_,E++E',Pp',rfl,?_,?_,?_,hK,?_,fun ad u hu=>hp _ _ (.inl hu)⟩
    ·refine ren_ok ?_ 8 pv v hvr
     intro i x hx
     show (E++E')[lenL st.o+i]? =some x
     rw [lenL_eq,←h.wr.len]
     exact app_right hx
    ·intro t
     exact (hurtS_ok h.wr hs t).mono (fun _ _=>app_left) hp
    ·rw [appL_eq];exact h3
    ·intro _ _ ad u hu
     rw [appL_eq]
     exact (hu.hurt _).grow h1.wr.len hp hold
end
end Go.VC
end

section
namespace Go.VC
open Go
section
variable {P:Program} {tt:TypeId→Option TI} {N:Nat} {B:Base} {E:List RI} {Pp:Per} {objs:List Ob} {w:World} {st:St} {a:Act} {keep:List FuncId×List FuncId}
theorem fits_rd {cs:List CK} {vs:List Value} {ps:List PV} (h:cksFit cs ps=true) (hv:VRL tt E Pp vs ps):cs.length=ps.length∧
 ∀ (j:Nat) c v d,cs[j]? =some c→vs[j]? =some v→(mapL toD' ps)[j]? =some d→RD tt Pp c v d:=by
 induction cs generalizing vs ps with
 |nil=>cases ps with
  |nil=>exact ⟨rfl,fun j c v d h=>by simp at h⟩
  |cons=>simp [cksFit] at h
 |cons c cs ih=>cases ps with
  |nil=>simp [cksFit] at h
  |cons p ps=>
   simp only [cksFit,Bool.and_eq_true] at h
   cases hv with
   |cons v _ vs _ h1 h2=>
    obtain ⟨hl,hj⟩:=ih h.2 h2
    refine ⟨by simp [hl],?_⟩
    intro j c' v' d hc hv' hd
    cases j with
    |zero=>simp [mapL] at hc hv' hd;subst hc hv' hd;exact fit_rd h.1 h1
    |succ j=>exact hj j c' v' d (by simpa using hc) (by simpa using hv') (by simpa [mapL] using hd)
theorem frz_none (hw:WR tt E Pp objs w) {vs:List Value} {ps:List PV} (hv:VRL tt E Pp vs ps) (h:isEmptyL (catL (ids objs 8) ps)=true):VRL tt E Pp vs (mapL (frz objs 8) ps):=by
 have h':=isEmptyL_eq h
 exact ((frzs_ok (n:=8) hw (F:=[]) hv (fun i hi=>by rw [h'] at hi;exact hi)).mono (fun _ _ h=>h) (fun _ _=>hurtP_nil)).of_nil E
theorem mul_lt_of {i n s j:Nat} (hi:i<n) (hj:j<s):i*s+j<n*s:=by
 have:(i+1)*s≤n*s:=Nat.mul_le_mul_right _ hi
 rw [Nat.add_mul] at this;omega
theorem apart_el {i k s j l:Nat} (hj:j<s) (hl:l<s) (h:i*s+j=k*s+l):i=k∧j=l:=by
 have h1:(i*s+j)/s=i:=by
  rw [Nat.mul_comm,Nat.mul_add_div (by omega)]
  simp [Nat.div_eq_of_lt hj]
 have h2:(k*s+l)/s=k:=by
  rw [Nat.mul_comm,Nat.mul_add_div (by omega)]
  simp [Nat.div_eq_of_lt hl]
 have h3:i=k:=by rw [← h1,←h2,h]
 subst h3
 exact ⟨rfl,by omega⟩
theorem splice_get {vs us:List Value} {p j:Nat} (h:p+us.length≤vs.length):(vs.take p++us++vs.drop (p+us.length))[j]? =if p≤j∧j<p+us.length then us[j-p]? else vs[j]? :=by
 rw [List.append_assoc]
 by_cases h1:j<p
 ·rw [List.getElem?_append_left (by simp;omega),if_neg (by omega),List.getElem?_take_of_lt h1]
 ·rw [List.getElem?_append_right (by simp;omega)]
  have hlt:(vs.take p).length=p:=by simp;omega
  rw [hlt]
  by_cases h2:j<p+us.length
  ·rw [List.getElem?_append_left (by omega),if_pos (by omega)]
  ·rw [List.getElem?_append_right (by omega),if_neg (by omega),List.getElem?_drop]
   congr 1;omega
theorem splice_getD {vs us:List D} {p j:Nat} (h:p+us.length≤vs.length):(vs.take p++us++vs.drop (p+us.length))[j]? =if p≤j∧j<p+us.length then us[j-p]? else vs[j]? :=by
 rw [List.append_assoc]
 by_cases h1:j<p
 ·rw [List.getElem?_append_left (by simp;omega),if_neg (by omega),List.getElem?_take_of_lt h1]
 ·rw [List.getElem?_append_right (by simp;omega)]
  have hlt:(vs.take p).length=p:=by simp;omega
  rw [hlt]
  by_cases h2:j<p+us.length
  ·rw [List.getElem?_append_left (by omega),if_pos (by omega)]
  ·rw [List.getElem?_append_right (by omega),if_neg (by omega),List.getElem?_drop]
   congr 1;omega
theorem store_row_ok (htt:TtOk P tt) (h:SimW tt B E Pp st.o w) (hs:∀ t,VR tt E Pp (a.tmps.getD t undef) (look st.s t)) {o:Oper} {t:TypeId} {x y:Operand} (hop:o.op= .store t x y) {ti:TI} (hti:tt t=some ti)
 (hlen:(flat (evT tt st.s t y)).length=ti.cks.length) (hpos:0<ti.cks.length) (hone:allL oneCell (flat (evT tt st.s t y))=true) {e r off:Nat} {i:Int} (hx:ev st.s x= .rptr e r i off) (hm:nb off slcM=false) {d:D} (hob:getO st.o r= .row e d true)
 (hk:kindsAt tt e off ti.cks=true) (hfit:cksFit ti.cks (mapL (frz st.o 8) (flat (evT tt st.s t y)))=true) (hids:isEmptyL (catL (ids st.o 8) (flat (evT tt st.s t y)))=true)
 {K:PV→St→Prop} (hK:K .undef ⟨st.s,setO st.o r (.row e (std.setc d i off (mapL toD' (mapL (frz st.o 8) (flat (evT tt st.s t y))))) true)⟩) {Q:Exit→Act→World→Prop}:o.wp P a w (Post tt B keep E Pp st.o w o a K) Q:=by
 have hti':=htt _ _ hti
 have hy:=evT_ok hs t y
 have hne:flat (evT tt st.s t y)≠[]:=by
  intro h0;rw [h0] at hlen;simp at hlen;omega
 have hcells:=cells_ok hy hne
 have hfz:=frz_none h.wr hcells hids
 obtain ⟨_,hrd⟩:=fits_rd hfit hfz
 generalize hds:mapL toD' (mapL (frz st.o 8) (flat (evT tt st.s t y)))=ds at*
 have hdl:ds.length=ti.cks.length:=by rw [← hds,mapL_length,mapL_length];exact hlen
 have hxv:=ev_ok hs x
 rw [hx] at hxv
 rw [setO_eq] at hK
 have ho':=getO_live hob rfl
 generalize hgx:a.eval x=vx at hxv
 cases hxv with
 |rptr _ _ _ _ _ g o0 len cap hE h0 hu=>
  obtain ⟨rfl,h1⟩:=hu.get hm
  obtain ⟨ri,hri,hor⟩:=h.wr.ob r _ ho' rfl
  rw [hE] at hri;cases hri
  obtain ⟨vs,T,rows,hg,rfl,hl,hcap,hsz,hrow,hnp,_⟩:=hor
  have hnp:=hnp rfl
  generalize hi:i.toNat=n at*
  have hn:n<len:=by omega
  generalize hS:(cksOf tt e).length=S at*
  have hkl:off+ti.cks.length≤S:=by
   have:=kindsAt_ok hk (ti.cks.length-1) (ti.cks[ti.cks.length-1]'(by omega)) (List.getElem?_eq_getElem (by omega))
   have:=lt_of_get this
   rw [hS] at this;omega
  have hnS:(n+1)*S≤cap*S:=Nat.mul_le_mul_right _ (by omega)
  rw [Nat.add_mul] at hnS
  have hvl:=hcells.length
  generalize hus:(a.eval y).cells.toList=us at*
  have hul:us.length=ti.cks.length:=by omega
  have hrun:=storeAt_run (P:=P) hti' (v:=a.eval y) hg (o:=o0+n*S+off) (by rw [hus];omega) (by omega) (by rw [hus];exact oneCells_ok hone hcells)
  rw [hus] at hrun
  refine wp_skp (w':=w.setRow g ⟨vs.take (o0+n*S+off)++us++vs.drop (o0+n*S+off+ti.cks.length)⟩) ?_ ?_
  ·simp [execOp,hop,hgx,hrun]
  ·have hlr:r<st.o.length:=lt_of_get ho'
   have hrl:rows[n]? =some (rows[n]'(by omega)):=List.getElem?_eq_getElem (by omega)
   have hrn:=(hrow n _ hrl).1
   refine Post.mk (.undef _) hs ?_ hK (fun hq=>by rw [hop] at hq;simp [quietOp] at hq)
   refine h.turn (o':=.row e (std.setc (.list rows) i off ds) true) ho' rfl hE rfl (fun _ _=>rfl) hE (.inl (.refl _)) (by simp) ?_ (by simp [hlr]) ?_ rfl rfl rfl (by simp) ?_ (fun _ _ h=>h) (fun _ _ h=>.inl h) (fun b hb=>.inl hb) ?_
   ·intro j oj' hj hoj hl
    rw [List.getElem?_set_ne (Ne.symm hj)] at hoj
    exact ⟨oj',hoj,hl,fun _ _ h=>h⟩
   ·intro _
    refine ⟨_,T,_,setRow_heap w g _ _ _ _ hg,rfl,by simp [rowsD,hl],hcap,?_,?_,fun _=>hnp,fun hf=>by simp at hf⟩
    ·rw [hS];simp;omega
    ·intro k row hrk
     simp only [rowsD,List.getElem?_modify,hi] at hrk
     rw [hS]
     by_cases hkn:n=k
     ·subst hkn
      rw [hrl] at hrk
      simp at hrk
      refine ⟨by rw [← hrk];simp;omega,?_⟩
      intro j dd ck hj hck
      have hjS:=lt_of_get hck
      rw [hS] at hjS
      have hsp:(rows[n].take off++ds++rows[n].drop (off+ds.length))[j]? =some dd:=by rw [← hj,←hrk];simp
      rw [splice_getD (by omega)] at hsp
      rw [← hul,splice_get (by omega)]
      by_cases hin:off≤j∧j<off+ds.length
      ·rw [if_pos hin] at hsp
       rw [if_pos (by omega),show o0+n*S+j-(o0+n*S+off)=j-off by omega]
       have hu:us[j-off]? =some (us[j-off]'(by omega)):=List.getElem?_eq_getElem (by omega)
       refine ⟨_,hu,?_⟩
       have hc2:=kindsAt_ok hk (j-off) (ti.cks[j-off]'(by omega)) (List.getElem?_eq_getElem (by omega))
       rw [show off+(j-off)=j by omega,hck] at hc2
       cases hc2
       exact hrd (j-off) _ _ _ (List.getElem?_eq_getElem (by omega)) hu hsp
      ·rw [if_neg hin] at hsp
       rw [if_neg (by omega)]
       obtain ⟨v,hv,hr⟩:=(hrow n _ hrl).2 j dd ck hsp hck
       rw [hS] at hv
       exact ⟨v,hv,hr⟩
     ·have hrk':rows[k]? =some row:=by
       cases hrk0:rows[k]? with
       |none=>rw [hrk0] at hrk;simp at hrk
       |some r0=>rw [hrk0] at hrk;simp [hkn] at hrk;rw [hrk]
      obtain ⟨e1,e2⟩:=hrow k row hrk'
      rw [hS] at e1 e2
      refine ⟨e1,?_⟩
      intro j dd ck hj hck
      have hjS:=lt_of_get hck
      rw [hS] at hjS
      obtain ⟨v,hv,hr⟩:=e2 j dd ck hj hck
      refine ⟨v,?_,hr⟩
      rw [← hul,splice_get (by omega),if_neg]
      ·exact hv
      ·rintro ⟨q1,q2⟩
       have:n*S+(k*S+j-n*S)=k*S+j:=by omega
       have:=apart_el (i:=n) (k:=k) (s:=S) (j:=k*S+j-n*S) (l:=j) (by omega) hjS this
       exact hkn this.1
   ·intro k hk hne
    exact setRow_other w g k _ (fun e=>hne (by rw [e];rfl))
   ·intro ad v hv
    rw [pc_same (setRow_other w g _ _ (hnp ad v hv))]
    exact h.wr.pi ad v hv
theorem own_nil_ok (h:SimW tt B E Pp st.o w) (hs:∀ t,VR tt E Pp (a.tmps.getD t undef) (look st.s t)) {o:Oper} {x:Operand} (hop:o.op= .assign x) (hx:isNils x=true) {e:TypeId}
 {K:PV→St→Prop} (hK:K (.row e (lenL st.o)) ⟨st.s,appL st.o [.row e (.list []) true]⟩) {Q:Exit→Act→World→Prop}:o.wp P a w (Post tt B keep E Pp st.o w o a K) Q:=by
 have hv:a.eval x= .slice none 0 0:=by
  unfold isNils at hx
  split at hx
  ·rfl
  ·simp at hx
 rw [appL_eq,lenL_eq] at hK
 refine wp_val (v:=.slice none 0 0) (w':=w) ?_ ?_
 ·simp [execOp,hop,hv]
 ·refine Post.mk (E':=E++[.row0]) (Pp':=Pp) (.row0 _ _ (by rw [← h.wr.len];simp)) (slots_push hs) ?_ hK (fun _ ad v hv=>hv.grow h.wr.len (fun _ _ h=>h) (fun _ _=>rfl))
  refine ⟨h.wr.push (fun _=>rfl) (fun b hb=>by simp [RI.block?] at hb),pre_push h.pre,h.per,h.fr,h.pnew,h.fresh.push h.wr.len (fun b hb=>by simp [RI.block?] at hb)⟩
theorem ownZ_ok:∀ (cks:List CK) {E:List RI} {o1:List Ob},SimW tt B E Pp o1 w→
 ∃ E2,SimW tt B (E++E2) Pp (o1++ownZO cks) w∧VRL tt (E++E2) Pp (cks.map zeroV) (ownZ o1.length cks)
 |[],E,o1,h=>⟨[],by simpa [ownZO] using h,by simp [ownZ];exact .nil⟩
 | .slice e::cks,E,o1,h=>by
  have hp:SimW tt B (E++[.row0]) Pp (o1++[.row e (.list []) true]) w:=
   ⟨h.wr.push (fun _=>rfl) (fun b hb=>by simp [RI.block?] at hb),pre_push h.pre,h.per,h.fr,h.pnew,h.fresh.push h.wr.len (fun b hb=>by simp [RI.block?] at hb)⟩
  obtain ⟨E2,h1,h2⟩:=ownZ_ok cks hp
  refine ⟨.row0::E2,by simpa [ownZO] using h1,?_⟩
  rw [show E++RI.row0::E2=E++[.row0]++E2 by simp]
  refine .cons _ _ _ _ (.row0 _ _ ?_) (by simpa using h2)
  rw [← h.wr.len];simp
 | .int k::cks,E,o1,h=>let ⟨E2,h1,h2⟩:=ownZ_ok cks h;⟨E2,h1,.cons _ _ _ _ (.int _ _) h2⟩
 | .bool::cks,E,o1,h=>let ⟨E2,h1,h2⟩:=ownZ_ok cks h;⟨E2,h1,.cons _ _ _ _ (.bl _) h2⟩
 | .str::cks,E,o1,h=>let ⟨E2,h1,h2⟩:=ownZ_ok cks h;⟨E2,h1,.cons _ _ _ _ (.str ⟨#[]⟩) h2⟩
 | .ptr t::cks,E,o1,h=>let ⟨E2,h1,h2⟩:=ownZ_ok cks h;⟨E2,h1,.cons _ _ _ _ .nilp h2⟩
 | .map t e::cks,E,o1,h=>let ⟨E2,h1,h2⟩:=ownZ_ok cks h;⟨E2,h1,.cons _ _ _ _ .nilm h2⟩
 | .fn::cks,E,o1,h=>let ⟨E2,h1,h2⟩:=ownZ_ok cks h;⟨E2,h1,.cons _ _ _ _ .nilf h2⟩
 | .str2::cks,E,o1,h=>let ⟨E2,h1,h2⟩:=ownZ_ok cks h;⟨E2,h1,.cons _ _ _ _ (.undef _) h2⟩
theorem alloc_rows_ok (htt:TtOk P tt) (h:SimW tt B E Pp st.o w) (hs:∀ t,VR tt E Pp (a.tmps.getD t undef) (look st.s t)) {o:Oper} {t:TypeId} (hop:o.op= .alloc t) {ti:TI} (hti:tt t=some ti) (hbl:BldOk tt t (ownZ st.o.length ti.cks))
 {K:PV→St→Prop} (hK:K (.box (lenL st.o+lenL (ownZO ti.cks)) 0) ⟨st.s,appL st.o (appL (ownZO ti.cks) [.box (ownZ (lenL st.o) ti.cks)])⟩) {keep:List FuncId×List FuncId} {Q:Exit→Act→World→Prop}:o.wp P a w (Post tt B keep E Pp st.o w o a K) Q:=by
 obtain ⟨_,_,⟨z,hz,hzc⟩,_⟩:=(htt _ _ hti).run w
 rw [appL_eq,appL_eq,lenL_eq,lenL_eq] at hK
 have hz':z.cells=⟨ti.cks.map zeroV⟩:=by rw [← hzc]
 obtain ⟨E2,h1,h2⟩:=ownZ_ok ti.cks h
 have hn:=newVar_ok h1 t h2 hbl
 refine wp_val (v:=.pointer (some ⟨w.heap.size,0,none⟩)) (w':=w.alloc (.cells ⟨ti.cks.map zeroV⟩ t)) ?_ ?_
 ·simp [execOp,hop,Instr.alloc,hz,newVar,newRow,hz']
 ·refine Post.mk (E':=E++E2++[.box w.heap.size]) (Pp':=Pp) ?_ (fun t=>(hs t).mono (fun i x hx=> ?_) (fun _ _ h=>h)) ?_ hK (fun _ ad v hv=> ?_)
  ·simpa using hn.2
  ·rw [List.append_assoc,List.getElem?_append_left]
   ·exact hx
   ·exact (List.getElem?_eq_some_iff.1 hx).1
  ·simpa using hn.1
  ·have:=hv.grow (E2:=E2++[.box w.heap.size]) (objs2:=ownZO ti.cks++[.box (ownZ st.o.length ti.cks)]) (w':=w.alloc (.cells ⟨ti.cks.map zeroV⟩ t)) h.wr.len (fun _ _ h=>h) (fun k hk=>RowKit.Below.heap_alloc w _ k hk)
   simpa using this
theorem ownBuild_ok (htt:TtOk P tt) (h:SimW tt B E Pp st.o w) (hs:∀ t,VR tt E Pp (a.tmps.getD t undef) (look st.s t)) {o:Oper} {t:TypeId} {ps:Array (Nat×Operand)} (hop:o.op= .build t ps) {ti:TI} (hti:tt t=some ti) (hb:(ti.agg&&nb ti.ar 0)=true) {cs:List PV}
 (hcs:fillAll st.s tt ti.fs ps.toList (ownZ (lenL st.o) ti.cks)=some cs)
 {K:PV→St→Prop} (hK:K (.agg cs) ⟨st.s,appL st.o (ownZO ti.cks)⟩) {Q:Exit→Act→World→Prop}:o.wp P a w (Post tt B keep E Pp st.o w o a K) Q:=by
 rw [appL_eq] at hK
 rw [lenL_eq] at hcs
 obtain ⟨E2,h1,h2⟩:=ownZ_ok ti.cks h
 have hs':∀ t,VR tt (E++E2) Pp (a.tmps.getD t undef) (look st.s t):=fun t=>(hs t).mono (fun i x hx=>by
  rw [List.getElem?_append_left]
  ·exact hx
  ·exact (List.getElem?_eq_some_iff.1 hx).1) (fun _ _ h=>h)
 obtain ⟨v,hr,hv⟩:=struct_ok htt hs' hti hb h2 hcs
 refine wp_val (v:=v) (w':=w) ?_ ?_
 ·simp [execOp,hop,hr]
 ·exact Post.mk (E':=E++E2) (Pp':=Pp) hv hs' h1 hK (fun _ ad v hv=>hv.grow h.wr.len (fun _ _ h=>h) (fun _ _=>rfl))
theorem zeroRD (c:CK):RD tt Pp c (zeroV c) (toD' (zeroPV c)):=by
 cases c with
 |int=>exact .int _ _
 |bool=>exact .bool _
 |str=>exact .str ⟨#[]⟩
 |slice=>exact .slnil _
 |ptr=>exact .pnil _
 |map=>exact .mnil _ _
 |fn=>exact .fnil
 |str2=>exact .junk
theorem makeSlice_ok (htt:TtOk P tt) (h:SimW tt B E Pp st.o w) (hs:∀ t,VR tt E Pp (a.tmps.getD t undef) (look st.s t)) {o:Oper} {t e:TypeId} {x y:Operand} (hop:o.op= .makeSlice t x y) {ti ei:TI} (hti:tt t=some ti) (he:sliceEl ti=some e) (hei:tt e=some ei)
 (hb:ei.bytes≤1024) (hpos:0<ei.cks.length) {k k':IntKind} {l c:Int} (hx:ev st.s x= .int k l) (hy:ev st.s y= .int k' c) (h1:0≤l∧l≤c) (h2:0≤c∧c≤4294967296)
 {K:PV→St→Prop} (hK:K (.row e (lenL st.o)) ⟨st.s,appL st.o [.row e (std.rep l (zeroDs ei.cks)) true]⟩) {Q:Exit→Act→World→Prop}:o.wp P a w (Post tt B keep E Pp st.o w o a K) Q:=by
 obtain ⟨hu,_,_⟩:=(htt _ _ hti).slice he
 obtain ⟨i,z,d,hi,hsz,hby,hz,hzc,_⟩:=(htt _ _ hei).info
 have hxv:=ev_ok hs x
 have hyv:=ev_ok hs y
 rw [hx] at hxv;rw [hy] at hyv
 generalize hgx:a.eval x=vx at hxv
 generalize hgy:a.eval y=vy at hyv
 cases hxv;cases hyv
 rw [appL_eq,lenL_eq] at hK
 have hbytes:(i.bytes:Int)*c≤281474976710656:=by
  rw [hby]
  have:(ei.bytes:Int)*c≤1024*4294967296:=Int.mul_le_mul (by omega) h2.2 h2.1 (by omega)
  omega
 have hrun:=run_make (P:=P) w t e i z hu hi hz k k' l c h1.1 h1.2 hbytes (by omega)
 have hcks:cksOf tt e=ei.cks:=by simp [cksOf,hei]
 have hzl:z.cells.size=ei.cks.length:=by rw [← Array.length_toList,hzc];simp
 have hmc:madeCells z.cells (c.toNat*i.size)=⟨(madeCells z.cells (c.toNat*i.size)).toList⟩:=rfl
 rw [hmc] at hrun
 refine wp_val (v:=.slice (some ⟨w.heap.size,0,none⟩) l.toNat c.toNat) (w':=w.alloc (.cells ⟨(madeCells z.cells (c.toNat*i.size)).toList⟩ e)) ?_ ?_
 ·simp [execOp,hop,hgx,hgy,hrun]
 ·refine Post.mk (E':=E++[.row w.heap.size 0 l.toNat c.toNat]) (Pp':=Pp) (.row _ _ _ _ _ _ (by rw [← h.wr.len];simp)) (slots_push hs) ?_ hK (fun _ ad v hv=>hv.grow h.wr.len (fun _ _ h=>h) (fun k hk=>RowKit.Below.heap_alloc w _ k hk))
  refine h.new rfl ⟨_,e,List.replicate l.toNat (zeroDs ei.cks),heap_alloc_at w _,rfl,by simp,by omega,?_,?_,fun _=>nopi_new h.wr,fun hf=>by simp at hf⟩
  ·rw [hcks];simp [madeCells,hsz]
  ·intro k row hk
   have hkl:=lt_of_get hk
   simp at hkl
   have hrow:row=zeroDs ei.cks:=by
    rw [List.getElem?_eq_getElem (by simpa using hkl)] at hk
    simp at hk;exact hk.symm
   subst hrow
   rw [hcks]
   refine ⟨by simp [zeroDs,mapL_length],?_⟩
   intro j dd ck hj hck
   have hjl:=lt_of_get hck
   have hpos':=mul_lt_of (i:=k) (n:=c.toNat) (s:=ei.cks.length) (j:=j) (by omega) hjl
   refine ⟨zeroV ck,?_,?_⟩
   ·simp only [madeCells,Array.toList_map,Array.toList_range,Nat.zero_add,List.getElem?_map]
    rw [List.getElem?_range (by rw [hsz];exact hpos')]
    simp only [Option.map_some,hzl]
    have hm:(k*ei.cks.length+j) % ei.cks.length=j:=by
     rw [Nat.mul_comm,Nat.mul_add_mod];exact Nat.mod_eq_of_lt hjl
    rw [hm,getElem!_pos z.cells j (by omega)]
    have:z.cells.toList[j]? =some (zeroV ck):=by rw [hzc];simp [hck]
    rw [Array.getElem?_toList,Array.getElem?_eq_getElem (by omega)] at this
    exact this
   ·have:dd=toD' (zeroPV ck):=by
     simp only [zeroDs,mapL_eq,List.getElem?_map,hck,Option.map_some,Option.some.injEq] at hj
     exact hj.symm
    rw [this];exact zeroRD ck
theorem clear_ok (htt:TtOk P tt) (h:SimW tt B E Pp st.o w) (hs:∀ t,VR tt E Pp (a.tmps.getD t undef) (look st.s t)) {o:Oper} {t:TypeId} {x:Operand} {as:Array Operand} {ts:Array TypeId} {tr:List TypeId} (hop:o.op= .call { callee:=.builtin .clear,args:=as,argTypes:=ts }) (has:as.toList=[x]) (hts:ts.toList=t::tr) {ti ei:TI} {e r:Nat} {i:Int} (hti:tt t=some ti) (he:sliceEl ti=some e) (hei:tt e=some ei) (hpos:0<ei.cks.length)
 (hx:ev st.s x= .rptr e r i slcM) {d:D} (hob:getO st.o r= .row e d true)
 {K:PV→St→Prop} (hK:K (.tup []) ⟨st.s,setO st.o r (.row e (std.app (std.part d 0 i) (std.rep (std.sub (std.len d) i) (zeroDs ei.cks))) true)⟩) {Q:Exit→Act→World→Prop}:o.wp P a w (Post tt B keep E Pp st.o w o a K) Q:=by
 obtain ⟨hu,_,_⟩:=(htt _ _ hti).slice he
 obtain ⟨ii,z,dd,hi,hsz,hby,hz,hzc,_⟩:=(htt _ _ hei).info
 have has':as=⟨[x]⟩:=Array.toList_inj.1 has
 have hts':ts=⟨t::tr⟩:=Array.toList_inj.1 hts
 subst has';subst hts'
 have hcks:cksOf tt e=ei.cks:=by simp [cksOf,hei]
 have hzl:z.cells.size=ei.cks.length:=by rw [← Array.length_toList,hzc];simp
 have hxv:=ev_ok hs x
 rw [hx] at hxv
 rw [setO_eq] at hK
 have ho':=getO_live hob rfl
 have hquiet:quietOp keep o.op=false:=by rw [hop];rfl
 generalize hgx:a.eval x=vx at hxv
 cases hxv with
 |rptr _ _ _ _ _ g o0 len cap hE h0 hu2=>
  obtain ⟨⟨o1,rfl,ho1⟩,hile⟩:=hu2.getS
  obtain ⟨ri,hri,hor⟩:=h.wr.ob r _ ho' rfl
  rw [hE] at hri;cases hri
  obtain ⟨vs,T,rows,hg,rfl,hl,hcap,hszv,hrow,hnp,_⟩:=hor
  have hnp:=hnp rfl
  obtain ⟨n,rfl⟩:=Int.eq_ofNat_of_zero_le h0
  simp only [Int.toNat_natCast] at ho1 hile hgx
  have hnl:n≤len:=by omega
  have hexec:execOp a.eval o=(do let v ←Builtin.clear_ ⟨t::tr⟩ o.type #[.slice (some ⟨g,o1,none⟩) (len-n) (cap-n)];pure (.value v):Sem Next):=by
   simp [execOp,hop,resolve,invoke,builtin,hgx]
  have hnew:std.app (std.part (.list rows) 0 n) (std.rep (std.sub (std.len (.list rows)) n) (zeroDs ei.cks))= .list (rows.take n++List.replicate (len-n) (zeroDs ei.cks)):=by
   simp only [std,rowsD,Int.toNat_zero,List.drop_zero,Int.toNat_natCast,Nat.sub_zero,hl]
   congr 3;omega
  rw [hnew] at hK
  rcases Nat.lt_or_ge n len with hlt|hge
  ·have ho1:o1=o0+n*ei.cks.length:=by
    rcases ho1 with h1|h1
    ·rw [← hcks];exact h1
    ·omega
   subst ho1
   generalize hS:ei.cks.length=S at*
   rw [hcks,hS] at hszv
   have hnS:len*S≤cap*S:=Nat.mul_le_mul_right _ (by omega)
   have hnlS:n*S+(len-n)*S=len*S:=by rw [← Nat.add_mul];congr 1;omega
   generalize hus:(Builtin.zeroCells z.cells (len-n)).toList=us
   have hul:us.length=(len-n)*S:=by rw [← hus];simp [Builtin.zeroCells,hzl]
   have hget:∀ k j,k<len-n→j<S→∀ ck,ei.cks[j]? =some ck→us[k*S+j]? =some (zeroV ck):=by
    intro k j hk hj ck hck
    have:=mul_lt_of hk hj
    rw [← hus]
    simp only [Builtin.zeroCells,Array.toList_map,Array.toList_range,List.getElem?_map]
    rw [List.getElem?_range (by rw [hzl];exact this)]
    simp only [Option.map_some,hzl]
    have hm:(k*S+j) % S=j:=by rw [Nat.mul_comm,Nat.mul_add_mod];exact Nat.mod_eq_of_lt hj
    rw [hm,getElem!_pos z.cells j (by omega)]
    have:z.cells.toList[j]? =some (zeroV ck):=by rw [hzc];simp [hck]
    rw [Array.getElem?_toList,Array.getElem?_eq_getElem (by omega)] at this
    exact this
   have hone:∀ u∈us,u.oneCell'=true:=by
    intro u hu
    obtain ⟨p,hp,rfl⟩:=List.mem_iff_getElem.1 hu
    have hS0:0<S:=hpos
    have hpd:p/S<len-n:=by rw [Nat.div_lt_iff_lt_mul hS0];omega
    have hpm:p % S<S:=Nat.mod_lt _ hS0
    have hck:ei.cks[p % S]? =some (ei.cks[p % S]'(by omega)):=List.getElem?_eq_getElem (by omega)
    have:=hget (p/S) (p % S) hpd hpm _ hck
    rw [show p/S*S+p % S=p by rw [Nat.mul_comm];exact Nat.div_add_mod p S,List.getElem?_eq_getElem hp] at this
    rw [Option.some.inj this]
    cases ei.cks[p % S]'(by omega)<;>rfl
   have hst:=run_storeCells_at P g (o0+n*S) e us 0 ⟨vs⟩ w hg (by simp [hul];omega) hone
   refine wp_val (v:=.tuple #[]) (w':=w.setRow g ⟨vs.take (o0+n*S)++us++vs.drop (o0+n*S+us.length)⟩) ?_ ?_
   ·rw [hexec]
    have hne:len-n≠0:=by omega
    obtain ⟨k,hk⟩:=Nat.exists_eq_succ_of_ne_zero hne
    have hus2:(Builtin.zeroCells z.cells (k+1)).toList=us:=by rw [← hus,hk]
    simp [Builtin.clear_,run_underlying hu,hk,zeroValue,typeInfo,hi,hz,hus2,hst]
   ·have hlr:r<st.o.length:=lt_of_get ho'
    refine Post.mk (.tup _ _ .nil) hs ?_ hK (fun hq=>by rw [hquiet] at hq;cases hq)
    refine h.turn (o':=.row e (.list (rows.take n++List.replicate (len-n) (zeroDs ei.cks))) true) ho' rfl hE rfl (fun _ _=>rfl) hE (.inl (.refl _)) (by simp) ?_ (by simp [hlr]) ?_ rfl rfl rfl (by simp) ?_ (fun _ _ h=>h) (fun _ _ h=>.inl h) (fun b hb=>.inl hb) ?_
    ·intro j oj' hj hoj hl
     rw [List.getElem?_set_ne (Ne.symm hj)] at hoj
     exact ⟨oj',hoj,hl,fun _ _ h=>h⟩
    ·intro _
     refine ⟨_,T,_,setRow_heap w g _ _ _ _ hg,rfl,by simp [hl];omega,hcap,?_,?_,fun _=>hnp,fun hf=>by simp at hf⟩
     ·rw [hcks,hS];simp [hul];omega
     ·intro k row hrk
      rw [hcks,hS]
      by_cases hkn:k<n
      ·rw [List.getElem?_append_left (by simp;omega),List.getElem?_take_of_lt hkn] at hrk
       obtain ⟨e1,e2⟩:=hrow k row hrk
       rw [hcks,hS] at e1 e2
       refine ⟨e1,fun j dd ck hj hck=> ?_⟩
       have hjS:j<S:=hS▸lt_of_get hck
       obtain ⟨v,hv,hr⟩:=e2 j dd ck hj hck
       refine ⟨v,?_,hr⟩
       rw [splice_get (by rw [hul];omega),if_neg]
       ·exact hv
       ·have:=mul_lt_of hkn hjS
        omega
      ·have hkl:=lt_of_get hrk
       simp at hkl
       rw [List.getElem?_append_right (by simp;omega)] at hrk
       have hlt:(rows.take n).length=n:=by simp;omega
       rw [hlt,List.getElem?_replicate,if_pos (by omega)] at hrk
       cases hrk
       refine ⟨by rw [← hS];simp [zeroDs,mapL_length],fun j dd ck hj hck=> ?_⟩
       have hjS:j<S:=hS▸lt_of_get hck
       refine ⟨zeroV ck,?_,?_⟩
       ·have hb:=mul_lt_of (i:=k-n) (n:=len-n) (by omega) hjS
        have hks:k*S=n*S+(k-n)*S:=by rw [← Nat.add_mul];congr 1;omega
        rw [splice_get (by rw [hul];omega),if_pos (by rw [hul];omega)]
        rw [show o0+k*S+j-(o0+n*S)=(k-n)*S+j by omega]
        exact hget _ _ (by omega) hjS ck hck
       ·have:dd=toD' (zeroPV ck):=by
         simp only [zeroDs,mapL_eq,List.getElem?_map,hck,Option.map_some,Option.some.injEq] at hj
         exact hj.symm
        rw [this];exact zeroRD ck
    ·intro k hk hne
     exact setRow_other w g k _ (fun e=>hne (by rw [e];rfl))
    ·intro ad v hv
     rw [pc_same (setRow_other w g _ _ (hnp ad v hv))]
     exact h.wr.pi ad v hv
  ·have hln:len-n=0:=by omega
   have hrows:rows.take n++List.replicate (len-n) (zeroDs ei.cks)=rows:=by rw [hln,List.replicate_zero,List.append_nil,List.take_of_length_le (by omega)]
   rw [hrows] at hK
   have hset:st.o.set r (.row e (.list rows) true)=st.o:=by
    apply List.ext_getElem?
    intro j
    rw [List.getElem?_set]
    split
    ·rename_i hj;subst hj;rw [if_pos (lt_of_get ho'),ho']
    ·rfl
   rw [hset] at hK
   refine wp_val (v:=.tuple #[]) (w':=w) ?_ ?_
   ·rw [hexec,hln]
    simp [Builtin.clear_,run_underlying hu]
   ·exact Post.mk (.tup _ _ .nil) hs h hK (fun hq=>by rw [hquiet] at hq;cases hq)
theorem litRows_ok (hw:WR tt E Pp objs w) (hs:∀ t,VR tt E Pp (a.tmps.getD t undef) (look st.s t)) {e:TypeId} {ei:TI} (hpos:0<ei.cks.length) {F:List Nat} {n:Nat}:∀ (r:List (Nat×Operand)) (i:Nat) (rows:List (List D)) (vs:List Value),
 litRows (frz objs 8) tt st.s e ei i n r=some rows→(∀ p∈r,∀ k∈catL (ids objs 8) (flat (evT tt st.s e p.2)),k∈F)→vs.length=n*ei.cks.length→
 ∃ us,Instr.fill (fun k=>some (k*ei.cks.length,ei.cks.length)) ⟨vs⟩ (r.map fun p=>(p.1,a.eval p.2))=some ⟨us⟩∧us.length=n*ei.cks.length∧i+rows.length=n∧(∀ p,p<i*ei.cks.length→us[p]? =vs[p]?)∧
  ∀ (k:Nat) (row:List D),rows[k]? =some row→row.length=ei.cks.length∧∀ (j:Nat) (d:D) (ck:CK),row[j]? =some d→ei.cks[j]? =some ck→
   ∃ v,us[(i+k)*ei.cks.length+j]? =some v∧RD tt (hurtP tt E objs w Pp F) ck v d:=by
 intro r
 induction r with
 |nil=>
  intro i rows vs h hF hv
  simp only [litRows] at h
  cases hb:nb i n with
  |false=>rw [hb] at h;simp at h
  |true=>
   rw [hb] at h
   simp at h;subst h
   have:=nb_of hb
   exact ⟨vs,rfl,hv,by simp [this],fun _ _=>rfl,fun k row hk=>by simp at hk⟩
 |cons p r ih=>
  intro i rows vs h hF hv
  obtain ⟨j0,x⟩:=p
  simp only [litRows] at h
  cases hb:(nb i j0&&cksFit ei.cks (mapL (frz objs 8) (flat (evT tt st.s e x)))&&allL oneCell (flat (evT tt st.s e x))) with
  |false=>rw [hb] at h;simp at h
  |true=>
   rw [hb] at h
   simp only [cond_true] at h
   simp only [Bool.and_eq_true] at hb
   have hij:=nb_of hb.1.1
   subst hij
   split at h
   ·rename_i rows' hrows'
    simp at h;subst h
    generalize hps:flat (evT tt st.s e x)=ps at*
    have hl0:(mapL (frz objs 8) ps).length=ei.cks.length:=by
     have:∀ (cs:List CK) (qs:List PV),cksFit cs qs=true→qs.length=cs.length:=by
      intro cs
      induction cs with
      |nil=>intro qs h;cases qs<;>simp_all [cksFit]
      |cons c cs ih=>intro qs h;cases qs<;>simp_all [cksFit]
     exact this _ _ hb.1.2
    rw [mapL_length] at hl0
    have hcells:VRL tt E Pp (a.eval x).cells.toList ps:=by
     rw [← hps]
     exact cells_ok (evT_ok hs e x) (by rw [hps];intro h0;rw [h0] at hl0;simp at hl0;omega)
    have hfz:=(frzs_ok (n:=8) hw (F:=F) hcells (fun k hk=>hF (i,x) (by simp) k (by rw [hps];exact hk)))
    obtain ⟨_,hrd⟩:=fits_rd hb.1.2 hfz
    have hcl:=hcells.length
    -- the cells behind this part
    let vs1:=((a.eval x).cells.toList.zipIdx.foldl (fun cs (x:Value×Nat)=>cs.setIfInBounds (i*ei.cks.length+x.2) x.1) (⟨vs⟩:Array Value)).toList
    have hin:i<n:=by
     obtain ⟨_,_,_,h3,_⟩:=ih (i+1) rows' (List.replicate (n*ei.cks.length) undef) hrows' (fun p hp=>hF p (by simp [hp])) (by simp)
     omega
    have hfit:=mul_lt_of (i:=i) (n:=n) (s:=ei.cks.length) (j:=ei.cks.length-1) hin (by omega)
    have hget:∀ j,vs1[j]? =if i*ei.cks.length≤j∧j<i*ei.cks.length+ei.cks.length then (a.eval x).cells.toList[j-i*ei.cks.length]? else vs[j]? :=by
     intro j
     have:=foldl_set_get (a.eval x).cells.toList (i*ei.cks.length) 0 ⟨vs⟩ j (by simp only [List.size_toArray];omega)
     simp only [vs1,Array.getElem?_toList,this,Nat.add_zero]
     rw [show (a.eval x).cells.toList.length=ei.cks.length by omega]
     simp
    have hv1:vs1.length=n*ei.cks.length:=by
     have:=foldl_set_size (a.eval x).cells.toList (i*ei.cks.length) 0 ⟨vs⟩
     simp only [vs1,Array.length_toList,this];simpa using hv
    obtain ⟨us,h1,h2,h3,h4,h5⟩:=ih (i+1) rows' vs1 hrows' (fun p hp=>hF p (by simp [hp])) hv1
    refine ⟨us,?_,h2,by simp;omega,?_,?_⟩
    ·simp only [List.map_cons,Instr.fill]
     have hsz:(a.eval x).cells.size=ei.cks.length:=by rw [← Array.length_toList];omega
     rw [if_neg (by simp [hsz];omega)]
     rw [← h1]
     congr 1
     apply Array.ext'
     simp only [vs1,←Array.foldl_toList,Array.toList_zipIdx]
    ·intro p hp
     rw [h4 p (by rw [Nat.add_mul];omega),hget,if_neg (by omega)]
    ·intro k row hk
     cases k with
     |zero=>
      simp at hk;subst hk
      refine ⟨by simp [mapL_length,hl0],?_⟩
      intro j d ck hj hck
      have hjl:=lt_of_get hck
      have hu:(a.eval x).cells.toList[j]? =some ((a.eval x).cells.toList[j]'(by omega)):=List.getElem?_eq_getElem (by omega)
      refine ⟨_,?_,hrd j _ _ _ hck hu hj⟩
      rw [h4 _ (by rw [Nat.add_zero,Nat.add_mul];omega),hget,Nat.add_zero,if_pos (by omega),show i*ei.cks.length+j-i*ei.cks.length=j by omega]
      exact hu
     |succ k=>
      obtain ⟨e1,e2⟩:=h5 k row (by simpa using hk)
      refine ⟨e1,fun j d ck hj hck=> ?_⟩
      obtain ⟨v,hv,hr⟩:=e2 j d ck hj hck
      exact ⟨v,by rw [show i+(k+1)=i+1+k by omega];exact hv,hr⟩
   ·simp at h
theorem buildSlice_run (htt:TtOk P tt) {t e:TypeId} {ti ei:TI} (hti:tt t=some ti) (he:sliceEl ti=some e) (hei:tt e=some ei) {len:Nat} (hlen:len≤1000) (hck:ei.cks.length≤1000) {parts:List (Nat×Value)}:
 ∃ vs:List Value,vs.length=len*ei.cks.length∧∀ us,Instr.fill (fun k=>some (k*ei.cks.length,ei.cks.length)) ⟨vs⟩ parts=some ⟨us⟩→
  (Instr.buildSlice t len ⟨parts⟩).run P w= .ok (.slice (some ⟨w.heap.size,0,none⟩) len len) (w.alloc (.cells ⟨us⟩ e)):=by
 obtain ⟨hu,_,_⟩:=(htt _ _ hti).slice he
 obtain ⟨_,h2,⟨z,hz,hzc⟩,_⟩:=(htt _ _ hei).run w
 have hle:len*ei.cks.length≤1000*1000:=Nat.mul_le_mul hlen hck
 refine ⟨((Array.range (len*ei.cks.length)).map ((if len*ei.cks.length=0 then #[] else z.cells)[· % (if len*ei.cks.length=0 then #[] else z.cells).size]!)).toList,by simp,?_⟩
 intro us hf
 have hno:¬len*ei.cks.length>2 ^ 24:=by omega
 simp only [Instr.buildSlice,run_underlying hu,Sem.run_bind,Result.andThen_ok,h2,hno,if_false]
 by_cases h0:len*ei.cks.length=0
 ·simp only [h0,if_true] at hf ⊢
  have hf':Instr.fill (fun k=>some (k*ei.cks.length,ei.cks.length)) ((Array.range 0).map ((#[]:Array Value)[· % (#[]:Array Value).size]!)) parts=some ⟨us⟩:=hf
  simp only [Sem.run_pure,Result.andThen_ok,hf',newRow,Sem.run_bind]
  simp
 ·simp only [h0,if_false] at hf ⊢
  have hf':Instr.fill (fun k=>some (k*ei.cks.length,ei.cks.length)) ((Array.range (len*ei.cks.length)).map (z.cells[· % z.cells.size]!)) parts=some ⟨us⟩:=hf
  simp only [Sem.run_pure,Sem.run_bind,hz,Result.andThen_ok,hf',newRow]
  simp
theorem ids_mem {l:List (Nat×Operand)} {s:Slots} {e:TypeId}:∀ p∈l,∀ k∈catL (ids objs 8) (flat (evT tt s e p.2)),k∈catL (ids objs 8) (catL (fun p=>flat (evT tt s e p.2)) l):=by
 intro p hp k hk
 rw [catL_eq,List.mem_flatMap] at hk ⊢
 obtain ⟨q,hq,hk⟩:=hk
 exact ⟨q,by rw [catL_eq,List.mem_flatMap];exact ⟨p,hp,hq⟩,hk⟩
theorem RD.laid {e:TypeId} {rows:List (List D)} {us:List Value} {g len:Nat} (hl:rows.length=len)
 (h:∀ (k:Nat) (row:List D),rows[k]? =some row→row.length=(cksOf tt e).length∧∀ (j:Nat) (d:D) (ck:CK),row[j]? =some d→(cksOf tt e)[j]? =some ck→∃ v,us[k*(cksOf tt e).length+j]? =some v∧RD tt Pp ck v d)
 (hp:∀ (j:Nat) v,us[j]? =some v→Pp ⟨g,j,none⟩ v):RD tt Pp (.slice e) (.slice (some ⟨g,0,none⟩) len len) (.list rows):=by
 refine .sl e g 0 len len rows (fun i j=>us.getD (i*(cksOf tt e).length+j) undef) hl (Nat.le_refl _) (fun i row hi=>(h i row hi).1) ?_ ?_
 ·intro i j hi hj
  have hri:rows[i]? =some rows[i]:=List.getElem?_eq_getElem (by omega)
  obtain ⟨hlr,hc⟩:=h i _ hri
  obtain ⟨v,hv,_⟩:=hc j _ _ (List.getElem?_eq_getElem (by omega)) (List.getElem?_eq_getElem hj)
  have:=hp _ _ hv
  simpa [List.getD,hv] using this
 ·intro i j row d ck hi hj hck
  obtain ⟨v,hv,hr⟩:=(h i row hi).2 j d ck hj hck
  simpa [List.getD,hv] using hr
theorem buildSlice_ok (htt:TtOk P tt) (h:SimW tt B E Pp st.o w) (hs:∀ t,VR tt E Pp (a.tmps.getD t undef) (look st.s t)) {o:Oper} {t e:TypeId} {len:Nat} {ps:Array (Nat×Operand)} (hop:o.op= .buildSlice t len ps) {ti ei:TI} (hti:tt t=some ti) (he:sliceEl ti=some e) (hei:tt e=some ei)
 (hlen:len≤1000) (hck:ei.cks.length≤1000) (hpos:0<ei.cks.length) {rows:List (List D)} (hrows:litRows (frz st.o 8) tt st.s e ei 0 len ps.toList=some rows) {K:PV→St→Prop} {F:List Nat} (hF:F=catL (ids st.o 8) (catL (fun p=>flat (evT tt st.s e p.2)) ps.toList))
 (hK:(isEmptyL F=true∧(K (.row e (lenL st.o)) ⟨st.s,appL st.o [.row e (std.lit rows) true]⟩∨K (.lsf e (std.lit rows)) st))∨K (.lsf e (std.lit rows)) ⟨hurtS F st.o st.s,hurtO F 0 st.o⟩)
 {Q:Exit→Act→World→Prop}:o.wp P a w (Post tt B keep E Pp st.o w o a K) Q:=by
 obtain ⟨vs,hvl,hrun⟩:=buildSlice_run (w:=w) (parts:=ps.toList.map fun p=>(p.1,a.eval p.2)) htt hti he hei hlen hck
 obtain ⟨us,h1,h2,h3,_,h5⟩:=litRows_ok h.wr hs hpos (F:=F) ps.toList 0 rows vs hrows (by rw [hF];exact ids_mem) hvl
 have hrun:=hrun us h1
 have hcks:cksOf tt e=ei.cks:=by simp [cksOf,hei]
 have hparts:(ps.map fun (i,x)=>(i,a.eval x))=⟨ps.toList.map fun p=>(p.1,a.eval p.2)⟩:=by apply Array.ext';simp
 have hb:∀ k,k<w.heap.size→(w.alloc (.cells ⟨us⟩ e)).heap[k]? =w.heap[k]? :=fun k hk=>RowKit.Below.heap_alloc w _ k hk
 refine wp_val (v:=.slice (some ⟨w.heap.size,0,none⟩) len len) (w':=w.alloc (.cells ⟨us⟩ e)) ?_ ?_
 ·simp only [execOp,hop,hparts]
  simp [hrun]
 have laid:∀ (Pp1:Per),(∀ ad v,hurtP tt E st.o w Pp F ad v→Pp1 ad v)→RD tt (fun ad v=>Pp1 ad v∨(ad.block=w.heap.size∧(w.alloc (.cells ⟨us⟩ e)).cell? ad=some v)) (.slice e) (.slice (some ⟨w.heap.size,0,none⟩) len len) (.list rows):=by
  intro Pp1 hP
  refine RD.laid (by omega) ?_ ?_ (us:=us)
  ·intro k row hk
   rw [hcks]
   obtain ⟨e1,e2⟩:=h5 k row hk
   refine ⟨e1,fun j d ck hj hck=> ?_⟩
   obtain ⟨v,hv,hr⟩:=e2 j d ck hj hck
   exact ⟨v,by simpa using hv,hr.mono (fun ad v h=>.inl (hP ad v h))⟩
  ·intro j v hj
   exact .inr ⟨rfl,by rw [cell_of_block (heap_alloc_at w _)];exact hj⟩
 rcases hK with ⟨hF0,hK|hK⟩|hK
 ·have hF0:=isEmptyL_eq hF0
  subst hF0
  rw [appL_eq,lenL_eq] at hK
  refine Post.mk (E':=E++[.row w.heap.size 0 len len]) (Pp':=Pp) (.row _ _ _ _ _ _ (by rw [← h.wr.len];simp)) (slots_push hs) ?_ hK (fun _ ad v hv=>hv.grow h.wr.len (fun _ _ h=>h) hb)
  refine h.new rfl ⟨us,e,rows,heap_alloc_at w _,rfl,by omega,Nat.le_refl _,by rw [hcks];omega,?_,fun _=>nopi_new h.wr,fun hf=>by simp at hf⟩
  intro k row hk
  rw [hcks]
  obtain ⟨e1,e2⟩:=h5 k row hk
  refine ⟨e1,fun j d ck hj hck=> ?_⟩
  obtain ⟨v,hv,hr⟩:=e2 j d ck hj hck
  exact ⟨v,by simpa using hv,hr.mono (fun _ _=>hurtP_nil)⟩
 ·have hF0:=isEmptyL_eq hF0
  subst hF0
  have hS:=h.lay us e
  refine Post.mk (s':=st.s) (o':=st.o) (.lsf _ _ _ _ (laid Pp (fun _ _=>hurtP_nil))) (fun t=>(hs t).mono (fun _ _ h=>h) (fun _ _ h=>.inl h)) hS hK ?_
  intro _ ad v hv
  simpa using hv.grow (E2:=[]) (objs2:=[]) (Pp':=fun ad v=>Pp ad v∨(ad.block=w.heap.size∧(w.alloc (.cells ⟨us⟩ e)).cell? ad=some v)) h.wr.len (fun _ _ h=>.inl h) hb
 ·have hh:=h.hurt F
  have hS:=hh.lay us e
  refine Post.mk (.lsf _ _ _ _ (laid _ (fun _ _ h=>h))) (fun t=>(hurtS_ok h.wr hs t).mono (fun _ _ h=>h) (fun _ _ h=>.inl h)) hS hK ?_
  intro _ ad v hv
  simpa using (hv.hurt F).grow (E2:=[]) (objs2:=[]) (Pp':=fun ad v=>hurtP tt E st.o w Pp F ad v∨(ad.block=w.heap.size∧(w.alloc (.cells ⟨us⟩ e)).cell? ad=some v)) hh.wr.len (fun _ _ h=>.inl h) hb
theorem litFns_ok {n sz:Nat} (hsz:sz=1) {s:Slots} (hs:∀ t,VR tt E Pp (a.tmps.getD t undef) (look s t)):∀ (r:List (Nat×Operand)) (i:Nat) (l:List PV) (vs:List Value),litFns s i n r=some l→vs.length=n→
 ∃ us,Instr.fill (fun k=>some (k*sz,sz)) ⟨vs⟩ (r.map fun p=>(p.1,a.eval p.2))=some ⟨us⟩∧us.length=n∧i+l.length=n∧(∀ p,p<i→us[p]? =vs[p]?)∧∀ (k:Nat) p,l[k]? =some p→∃ v,us[i+k]? =some v∧VR tt E Pp v p:=by
 subst hsz
 intro r
 induction r with
 |nil=>
  intro i l vs h hv
  simp only [litFns] at h
  cases hb:nb i n with
  |false=>rw [hb] at h;simp at h
  |true=>
   rw [hb] at h
   simp at h;subst h
   have:=nb_of hb
   exact ⟨vs,rfl,hv,by simp [this],fun _ _=>rfl,fun k p hk=>by simp at hk⟩
 |cons p r ih=>
  intro i l vs h hv
  obtain ⟨j0,x⟩:=p
  simp only [litFns] at h
  cases hb:(nb i j0&&oneCell (ev s x)) with
  |false=>rw [hb] at h;simp at h
  |true=>
   rw [hb] at h
   simp only [cond_true] at h
   simp only [Bool.and_eq_true] at hb
   have hij:=nb_of hb.1
   subst hij
   split at h
   ·rename_i l' hl'
    simp at h;subst h
    have hx:=ev_ok hs x
    have hfl:flat (ev s x)=[ev s x]:=by
     have:=hb.2
     generalize ev s x=p at this
     cases p<;>first|rfl|simp [oneCell] at this
    have hcells:VRL tt E Pp (a.eval x).cells.toList [ev s x]:=by
     rw [← hfl];exact cells_ok hx (by rw [hfl];simp)
    obtain ⟨u,hu,huv⟩:∃ u,(a.eval x).cells.toList=[u]∧VR tt E Pp u (ev s x):=by
     generalize (a.eval x).cells.toList=us at hcells
     cases hcells with
     |cons v _ vs _ h1 h2=>cases h2;exact ⟨v,rfl,h1⟩
    have hcs:(a.eval x).cells= #[u]:=Array.ext' (by rw [hu])
    have hv1:(vs.set i u).length=n:=by simp [hv]
    obtain ⟨us,h1,h2,h3,h4,h5⟩:=ih (i+1) l' (vs.set i u) hl' hv1
    refine ⟨us,?_,h2,by simp;omega,?_,?_⟩
    ·simp only [List.map_cons,Instr.fill,hcs]
     rw [if_neg (by simp;omega)]
     rw [← h1]
     congr 1
     simp
    ·intro p hp
     rw [h4 p (by omega),List.getElem?_set_ne (by omega)]
    ·intro k p hk
     cases k with
     |zero=>
      simp at hk;subst hk
      refine ⟨u,?_,huv⟩
      rw [Nat.add_zero,h4 i (by omega),List.getElem?_set_self (by omega)]
     |succ k=>
      obtain ⟨v,hv,hr⟩:=h5 k p (by simpa using hk)
      exact ⟨v,by rw [show i+(k+1)=i+1+k by omega];exact hv,hr⟩
   ·simp at h
theorem buildFns_ok (htt:TtOk P tt) (h:SimW tt B E Pp st.o w) (hs:∀ t,VR tt E Pp (a.tmps.getD t undef) (look st.s t)) {o:Oper} {t e:TypeId} {len:Nat} {ps:Array (Nat×Operand)} (hop:o.op= .buildSlice t len ps) {ti ei:TI} (hti:tt t=some ti) (he:sliceEl ti=some e) (hei:tt e=some ei)
 (hlen:len≤1000) (hck:ei.cks.length=1) {l:List PV} (hl:litFns st.s 0 len ps.toList=some l) {K:PV→St→Prop} {F:List Nat} (hF:F=catL (ids st.o 8) l)
 (hK:K (.pptr (mapL (frz st.o 8) l) slcM) ⟨hurtS F st.o st.s,hurtO F 0 st.o⟩)
 {Q:Exit→Act→World→Prop}:o.wp P a w (Post tt B keep E Pp st.o w o a K) Q:=by
 obtain ⟨vs,hvl,hrun⟩:=buildSlice_run (w:=w) (parts:=ps.toList.map fun p=>(p.1,a.eval p.2)) htt hti he hei hlen (by omega)
 rw [hck,Nat.mul_one] at hvl
 obtain ⟨us,h1,h2,h3,_,h5⟩:=litFns_ok hck hs ps.toList 0 l vs hl hvl
 have hrun:=hrun us h1
 have hparts:(ps.map fun (i,x)=>(i,a.eval x))=⟨ps.toList.map fun p=>(p.1,a.eval p.2)⟩:=by apply Array.ext';simp
 refine wp_val (v:=.slice (some ⟨w.heap.size,0,none⟩) len len) (w':=w.alloc (.cells ⟨us⟩ e)) ?_ ?_
 ·simp only [execOp,hop,hparts]
  simp [hrun]
 have hll:us.length=l.length:=by omega
 have hvl:VRL tt E Pp us l:=VRL.of_get hll (fun j v p hv hp=>by
  obtain ⟨v',h6,h7⟩:=h5 j p hp
  rw [Nat.zero_add,hv] at h6;cases h6;exact h7)
 have hfz:=frzs_ok (n:=8) h.wr (F:=F) hvl (fun i hi=>by rw [hF];exact hi)
 have hh:=h.hurt F
 have hS:=hh.lay us e
 have hb:∀ k,k<w.heap.size→(w.alloc (.cells ⟨us⟩ e)).heap[k]? =w.heap[k]? :=fun k hk=>RowKit.Below.heap_alloc w _ k hk
 refine Post.mk (.pptr _ us _ _ w.heap.size 0 ⟨fun h=>absurd rfl h,fun _=>by rw [show us.length=len by omega]⟩ (hfz.mono (fun i x hx=>by simp at hx) (fun _ _ h=>.inl h)) (fun j v hj=>.inr ⟨rfl,by rw [cell_of_block (heap_alloc_at w _)];simpa using hj⟩)) (fun t=>(hurtS_ok h.wr hs t).mono (fun _ _ h=>h) (fun _ _ h=>.inl h)) hS hK ?_
 intro _ ad v hv
 simpa using (hv.hurt F).grow (E2:=[]) (objs2:=[]) (Pp':=fun ad v=>hurtP tt E st.o w Pp F ad v∨(ad.block=w.heap.size∧(w.alloc (.cells ⟨us⟩ e)).cell? ad=some v)) hh.wr.len (fun _ _ h=>.inl h) hb
theorem buildFnsL_ok (htt:TtOk P tt) (h:SimW tt B E Pp st.o w) (hs:∀ t,VR tt E Pp (a.tmps.getD t undef) (look st.s t)) {o:Oper} {t e:TypeId} {len:Nat} {ps:Array (Nat×Operand)} (hop:o.op= .buildSlice t len ps) {ti ei:TI} (hti:tt t=some ti) (he:sliceEl ti=some e) (hei:tt e=some ei)
 (hlen:len≤1000) (hck:ei.cks.length=1) {l:List PV} (hl:litFns st.s 0 len ps.toList=some l) (hbl:BldOk tt e l) {K:PV→St→Prop}
 (hK:K (.box (lenL st.o) (slcM+1+len)) ⟨st.s,appL st.o [.box l]⟩)
 {Q:Exit→Act→World→Prop}:o.wp P a w (Post tt B keep E Pp st.o w o a K) Q:=by
 obtain ⟨vs,hvl,hrun⟩:=buildSlice_run (w:=w) (parts:=ps.toList.map fun p=>(p.1,a.eval p.2)) htt hti he hei hlen (by omega)
 rw [hck,Nat.mul_one] at hvl
 obtain ⟨us,h1,h2,h3,_,h5⟩:=litFns_ok hck hs ps.toList 0 l vs hl hvl
 have hrun:=hrun us h1
 have hparts:(ps.map fun (i,x)=>(i,a.eval x))=⟨ps.toList.map fun p=>(p.1,a.eval p.2)⟩:=by apply Array.ext';simp
 rw [appL_eq,lenL_eq] at hK
 have hll:us.length=l.length:=by omega
 have hvl:VRL tt E Pp us l:=VRL.of_get hll (fun j v p hv hp=>by
  obtain ⟨v',h6,h7⟩:=h5 j p hp
  rw [Nat.zero_add,hv] at h6;cases h6;exact h7)
 have hn:=newVar_ok h e hvl hbl
 refine wp_val (v:=.slice (some ⟨w.heap.size,0,none⟩) len len) (w':=w.alloc (.cells ⟨us⟩ e)) ?_ ?_
 ·simp only [execOp,hop,hparts]
  simp [hrun]
 refine Post.mk ?_ (slots_push hs) hn.1 hK (fun _ ad v hv=>hv.grow h.wr.len (fun _ _ h=>h) (fun k hk=>RowKit.Below.heap_alloc w _ k hk))
 exact .box _ _ _ w.heap.size (by rw [← h.wr.len];simp) boxV.slc
end
end Go.VC
end

section
namespace Go.VC
open Go
section
variable {P:Program} {tt:TypeId→Option TI} {N:Nat} {B:Base} {E:List RI} {Pp:Per} {objs:List Ob} {w:World} {st:St} {a:Act} {keep:List FuncId×List FuncId}
structure Reads (tt:TypeId→Option TI) (Pp:Per) (w:World) (e:TypeId) (x:Value) (rows:List (List D)) (news:List Value):Prop where
 len:news.length=rows.length*(cksOf tt e).length
 shape:(∃ ba:Option Addr,x= .slice ba 0 0∧rows=[])∨(∃ b o c,x= .slice (some ⟨b,o,none⟩) rows.length c∧rows.length≤c∧∀ (j:Nat) u,news[j]? =some u→w.cell? ⟨b,o+j,none⟩=some u)∨
  ∃ s:ByteArray,x= .string s∧news=Lib.strCells s∧rows.length=s.size
 rd:∀ (k:Nat) (row:List D),rows[k]? =some row→row.length=(cksOf tt e).length∧∀ (j:Nat) (d:D) (ck:CK),row[j]? =some d→(cksOf tt e)[j]? =some ck→
  ∃ v,news[k*(cksOf tt e).length+j]? =some v∧RD tt Pp ck v d
theorem RD.one {c:CK} {v:Value} {d:D} (h:RD tt Pp c v d):v.oneCell'=true:=by cases h<;>rfl
theorem div_mod_lt {x n S:Nat} (h:x<n*S):x/S<n∧x % S<S∧x/S*S+x % S=x:=by
 have hS:0<S:=by
  rcases Nat.eq_zero_or_pos S with h0|h0
  ·subst h0;simp at h
  ·exact h0
 refine ⟨by rw [Nat.div_lt_iff_lt_mul hS];exact h,Nat.mod_lt _ hS,?_⟩
 rw [Nat.mul_comm];exact Nat.div_add_mod x S
theorem Reads.one {e:TypeId} {x:Value} {rows:List (List D)} {news:List Value} (h:Reads tt Pp w e x rows news):∀ u∈news,u.oneCell'=true:=by
 intro u hu
 obtain ⟨p,hp⟩:=List.getElem?_of_mem hu
 have hlt:=lt_of_get hp
 rw [h.len] at hlt
 obtain ⟨h1,h2,h3⟩:=div_mod_lt hlt
 obtain ⟨e1,e2⟩:=h.rd _ _ (List.getElem?_eq_getElem h1)
 obtain ⟨v,hv,hr⟩:=e2 _ _ _ (List.getElem?_eq_getElem (by omega)) (List.getElem?_eq_getElem h2)
 rw [h3,hp] at hv
 cases hv
 exact hr.one
theorem Reads.of_rd {e:TypeId} {v:Value} {d:D} (hw:WR tt E Pp objs w) (h:RD tt Pp (.slice e) v d):∃ rows news,d= .list rows∧Reads tt Pp w e v rows news:=by
 cases h with
 |slnil=>exact ⟨[],[],rfl,by simp,.inl ⟨none,rfl,rfl⟩,fun k row h=>by simp at h⟩
 |sl0 _ ad=>exact ⟨[],[],rfl,by simp,.inl ⟨some ad,rfl,rfl⟩,fun k row h=>by simp at h⟩
 |sl _ b o len cap rows vf hl hc hrow hpi hrd=>
  refine ⟨rows,(List.range (rows.length*(cksOf tt e).length)).map (fun x=>vf (x/(cksOf tt e).length) (x % (cksOf tt e).length)),rfl,by simp,.inr (.inl ⟨b,o,cap,by rw [hl],by omega,?_⟩),?_⟩
  ·intro j u hj
   have hlt:=lt_of_get hj
   simp at hlt
   obtain ⟨h1,h2,h3⟩:=div_mod_lt hlt
   simp only [List.getElem?_map,List.getElem?_range hlt,Option.map_some,Option.some.injEq] at hj
   subst hj
   have:=hw.piN (hpi (j/(cksOf tt e).length) (j % (cksOf tt e).length) (by rw [← hl];exact h1) h2)
   rwa [Nat.add_assoc,h3] at this
  ·intro k row hk
   refine ⟨hrow k row hk,fun j d ck hj hck=>⟨vf k j,?_,hrd k j row d ck hk hj hck⟩⟩
   have hjl:=lt_of_get hck
   have hkl:=lt_of_get hk
   have hlt:=mul_lt_of hkl hjl
   simp only [List.getElem?_map,List.getElem?_range hlt,Option.map_some,Option.some.injEq]
   have e1:(k*(cksOf tt e).length+j)/(cksOf tt e).length=k:=by
    rw [Nat.mul_comm,Nat.mul_add_div (by omega)];simp [Nat.div_eq_of_lt hjl]
   have e2:(k*(cksOf tt e).length+j) % (cksOf tt e).length=j:=by
    rw [Nat.mul_comm,Nat.mul_add_mod];exact Nat.mod_eq_of_lt hjl
   rw [e1,e2]
theorem RowAt.reads {e:TypeId} {vs:List Value} {o len:Nat} {rows:List (List D)} (h:RowAt tt Pp e vs o rows) (hl:rows.length=len) (hsz:o+len*(cksOf tt e).length≤vs.length):
 ((vs.drop o).take (len*(cksOf tt e).length)).length=rows.length*(cksOf tt e).length∧∀ (k:Nat) (row:List D),rows[k]? =some row→row.length=(cksOf tt e).length∧∀ (j:Nat) (d:D) (ck:CK),row[j]? =some d→(cksOf tt e)[j]? =some ck→
 ∃ v,((vs.drop o).take (len*(cksOf tt e).length))[k*(cksOf tt e).length+j]? =some v∧RD tt Pp ck v d:=by
 refine ⟨by rw [hl];simp;omega,fun k row hk=> ?_⟩
 obtain ⟨e1,e2⟩:=h k row hk
 refine ⟨e1,fun j d ck hj hck=> ?_⟩
 obtain ⟨v,hv,hr⟩:=e2 j d ck hj hck
 have hjl:=lt_of_get hck
 have hkl:=lt_of_get hk
 have hlt:=mul_lt_of hkl hjl
 refine ⟨v,?_,hr⟩
 rw [List.getElem?_take_of_lt (by rw [← hl];exact hlt),List.getElem?_drop]
 rw [show o+(k*(cksOf tt e).length+j)=o+k*(cksOf tt e).length+j by omega]
 exact hv
theorem Reads.of_src {K:TypeId→D→Prop} (hw:WR tt E Pp objs w) {v:Value} {p:PV} (hv:VR tt E Pp v p) (h:srcD objs p K):∃ e rows news,K e (.list rows)∧Reads tt Pp w e v rows news:=by
 unfold srcD at h
 split at h
 ·cases hv with
  |lst e _ _ hr=>
   obtain ⟨rows,news,rfl,hR⟩:=Reads.of_rd hw hr
   exact ⟨_,rows,news,h,hR⟩
 ·rename_i e r
  split at h
  ·rename_i e' d wr ho
   cases hb:nb e e' with
   |false=>rw [hb] at h;exact h.elim
   |true=>
    rw [hb] at h
    have:=nb_of hb;subst this
    have ho':=getO_live ho rfl
    obtain ⟨ri,hri,hor⟩:=hw.ob r _ ho' rfl
    cases hv with
    |row0 _ _ hE=>
     rw [hE] at hri;cases hri
     have:d= .list []:=hor
     subst this
     exact ⟨_,[],[],h,by simp,.inl ⟨none,rfl,rfl⟩,fun k row h=>by simp at h⟩
    |row _ _ g o len cap hE=>
     rw [hE] at hri;cases hri
     obtain ⟨vs,T,rows,hg,rfl,hl,hcap,hsz,hrow,_,_⟩:=hor
     have hle:len*(cksOf tt e).length≤cap*(cksOf tt e).length:=Nat.mul_le_mul_right _ hcap
     obtain ⟨h1,h2⟩:=hrow.reads hl (by omega)
     refine ⟨_,rows,(vs.drop o).take (len*(cksOf tt e).length),h,h1,.inr (.inl ⟨g,o,cap,by rw [hl],by omega,?_⟩),h2⟩
     intro j u hj
     have hlt:=lt_of_get hj
     rw [h1,hl] at hlt
     rw [List.getElem?_take_of_lt hlt,List.getElem?_drop] at hj
     rw [cell_of_block hg];exact hj
  ·exact h.elim
 ·exact h.elim
theorem Reads.of_str {e:TypeId} (he:cksOf tt e=[.int .u8]) (b:ByteArray):Reads tt Pp w e (.string b) (b.data.toList.map fun c=>[.int (c.toNat:Int)]) (Lib.strCells b):=by
 have hl:(b.data.toList.map fun c=>[D.int (c.toNat:Int)]).length=b.size:=by rw [List.length_map,Array.length_toList];rfl
 refine ⟨by rw [Lib.strCells_length,he,hl];exact (Nat.mul_one _).symm,.inr (.inr ⟨b,rfl,rfl,hl⟩),fun k row hk=> ?_⟩
 rw [List.getElem?_map] at hk
 obtain ⟨c,hc,rfl⟩:=Option.map_eq_some_iff.1 hk
 refine ⟨by rw [he];rfl,fun j d ck hj hck=> ?_⟩
 rw [he] at hck ⊢
 cases j with
 |succ j=>simp at hj
 |zero=>
  simp at hj hck
  subst hj hck
  exact ⟨.int .u8 c.toNat,by simp [Lib.strCells,hc],.int _ _⟩
theorem Reads.first {e:TypeId} {x:Value} {rows:List (List D)} {news:List Value} (h:Reads tt Pp w e x rows news) {w':World} (hh:w'.heap=w.heap):
 (Builtin.lenOf x).run P w'= .ok rows.length w'∧(Builtin.firstCells (cksOf tt e).length rows.length x).run P w'= .ok news.toArray w':=by
 rcases h.shape with ⟨ba,rfl,rfl⟩|⟨b,o,c,rfl,hc,hcell⟩|⟨s,rfl,rfl,hs⟩
 ·have hl:=h.len
  simp at hl
  subst hl
  cases ba with
  |none=>exact ⟨by simp [Builtin.lenOf],by simp [Builtin.firstCells]⟩
  |some ad=>exact ⟨by simp [Builtin.lenOf],run_firstCells_some (P:=P) w' _ _ _ _ _ [] (by simp) (fun j u hj=>by simp at hj)⟩
 ·refine ⟨by simp [Builtin.lenOf],run_firstCells_some (P:=P) w' _ _ _ _ _ news h.len ?_⟩
  intro j u hj
  rw [add_none]
  have:=hcell j u hj
  rw [← this]
  simp [World.cell?,hh]
 ·exact ⟨by simp [Builtin.lenOf,hs],by rw [hs];exact Lib.run_firstCells_string w' _ s⟩
theorem append_room {t1 t2 ty e:TypeId} {i1 i2 ei:TI} (h1:tt t1=some i1) (h2:tt t2=some i2) (he1:sliceEl i1=some e) (he2:P.underlying t2=some (.slice e)∨P.underlying t2=some .string) (hei:tt e=some ei) (htt:TtOk P tt)
 {x:Value} {rows:List (List D)} {news:List Value} (hR:Reads tt Pp w e x rows news) {g o n cap:Nat} {cur:List Value} {T:TypeId} (hg:w.heap[g]? =some (.cells ⟨cur⟩ T (0,0)))
 (hroom:n+rows.length≤cap) (hfit:o+n*(cksOf tt e).length+news.length≤cur.length):
 (Builtin.append_ #[t1,t2] ty #[.slice (some ⟨g,o,none⟩) n cap,x]).run P w= .ok (.slice (some ⟨g,o,none⟩) (n+rows.length) cap) (w.setRow g ⟨cur.take (o+n*(cksOf tt e).length)++news++cur.drop (o+n*(cksOf tt e).length+news.length)⟩):=by
 obtain ⟨hu1,_,_⟩:=(htt _ _ h1).slice he1
 have hcks:cksOf tt e=ei.cks:=by simp [cksOf,hei]
 obtain ⟨_,hs2,_,_⟩:=(htt _ _ hei).run w
 rw [← hcks] at hs2
 obtain ⟨f1,f2⟩:=hR.first (P:=P) (w':=w) rfl
 have hst:=run_storeCells_at P g (o+n*(cksOf tt e).length) T news 0 ⟨cur⟩ w hg (by simpa using hfit) hR.one
 simp only [Nat.add_zero] at hst
 rcases he2 with hu2|hu2<;>simp [Builtin.append_,run_underlying hu1,run_underlying hu2,hs2,f1,hroom,f2,add_none,hst]
theorem append_grow {t1 t2 ty e:TypeId} {i1 i2 ei:TI} (h1:tt t1=some i1) (h2:tt t2=some i2) (he1:sliceEl i1=some e) (he2:P.underlying t2=some (.slice e)∨P.underlying t2=some .string) (hei:tt e=some ei) (htt:TtOk P tt)
 {x y:Value} {rows olds:List (List D)} {news oldc:List Value} (hR:Reads tt Pp w e x rows news) (hO:Reads tt Pp w e y olds oldc) {base:Option Addr} {cap:Nat} (hy:y= .slice base olds.length cap) (hcap:olds.length≤cap)
 (hg:cap<olds.length+rows.length) (h63:olds.length+rows.length≤4294967296) (hb:ei.bytes≤1024):
 ∃ (nc:Nat) (zs:List Value),olds.length+rows.length≤nc∧zs.length=(nc-(olds.length+rows.length))*(cksOf tt e).length∧
 (Builtin.append_ #[t1,t2] ty #[y,x]).run P w= .ok (.slice (some ⟨w.heap.size,0,none⟩) (olds.length+rows.length) nc) (w.drew.alloc (.cells ⟨oldc++news++zs⟩ e)):=by
 obtain ⟨hu1,_,_⟩:=(htt _ _ h1).slice he1
 have hcks:cksOf tt e=ei.cks:=by simp [cksOf,hei]
 obtain ⟨i,z,d,hi,hsz,hby,hz,hzc,_⟩:=(htt _ _ hei).info
 rw [← hcks] at hsz
 have hzl:z.cells.size=(cksOf tt e).length:=by rw [← Array.length_toList,hzc,hcks];simp
 obtain ⟨f1,_⟩:=hR.first (P:=P) (w':=w) rfl
 obtain ⟨_,f2⟩:=hR.first (P:=P) (w':=w.drew) rfl
 obtain ⟨_,f3⟩:=hO.first (P:=P) (w':=w.drew) rfl
 have hno:¬(olds.length+rows.length≤cap):=by omega
 have hle:(olds.length+rows.length)*i.bytes≤4294967296*1024:=Nat.mul_le_mul h63 (by omega)
 have hfits:=growslice_fits (need:=olds.length+rows.length) (old:=cap) (bytes:=i.bytes) (by omega) (by omega)
 have h48':¬(281474976710656<Builtin.nextslicecap (olds.length+rows.length) cap*i.bytes):=by omega
 have h63':¬(9223372036854775807<((olds.length:Int)+(rows.length:Int))):=by omega
 refine ⟨grownCap w (olds.length+rows.length) cap e,(Builtin.zeroCells z.cells (grownCap w (olds.length+rows.length) cap e-(olds.length+rows.length))).toList,grownCap_ge _ _ _ _,by simp [Builtin.zeroCells,hzl],?_⟩
 subst hy
 rcases he2 with hu2|hu2<;>(
  simp [Builtin.append_,run_underlying hu1,run_underlying hu2,sizeOf,typeInfo,zeroValue,hi,hz,hsz,f1,hno,h63',h48',Question.forced,f2,f3,newRow,grownCap]
  congr 2
  apply Array.ext'
  simp [List.append_assoc])
theorem append_nilroom {t1 t2 ty e:TypeId} {i1 i2 ei:TI} (h1:tt t1=some i1) (h2:tt t2=some i2) (he1:sliceEl i1=some e) (he2:P.underlying t2=some (.slice e)∨P.underlying t2=some .string) (hei:tt e=some ei) (htt:TtOk P tt)
 {x:Value} {news:List Value} (hR:Reads tt Pp w e x [] news) {base:Option Addr} {n cap:Nat} (hroom:n≤cap):
 (Builtin.append_ #[t1,t2] ty #[.slice base n cap,x]).run P w= .ok (.slice base n cap) w:=by
 obtain ⟨hu1,_,_⟩:=(htt _ _ h1).slice he1
 have hcks:cksOf tt e=ei.cks:=by simp [cksOf,hei]
 obtain ⟨_,hs2,_,_⟩:=(htt _ _ hei).run w
 rw [← hcks] at hs2
 obtain ⟨f1,f2⟩:=hR.first (P:=P) (w':=w) rfl
 have hl:=hR.len
 simp at hl
 subst hl
 simp only [List.length_nil] at f1 f2
 cases base with
 |none=>rcases he2 with hu2|hu2<;>simp [Builtin.append_,run_underlying hu1,run_underlying hu2,hs2,f1,hroom,f2]
 |some b=>rcases he2 with hu2|hu2<;>simp [Builtin.append_,run_underlying hu1,run_underlying hu2,hs2,f1,hroom,f2,storeCells]
theorem cat_rd {e:TypeId} {olds rows:List (List D)} {oldc news zs:List Value} (hol:oldc.length=olds.length*(cksOf tt e).length)
 (ho:∀ (k:Nat) (row:List D),olds[k]? =some row→row.length=(cksOf tt e).length∧∀ (j:Nat) (d:D) (ck:CK),row[j]? =some d→(cksOf tt e)[j]? =some ck→∃ v,oldc[k*(cksOf tt e).length+j]? =some v∧RD tt Pp ck v d)
 (hnl:news.length=rows.length*(cksOf tt e).length)
 (hn:∀ (k:Nat) (row:List D),rows[k]? =some row→row.length=(cksOf tt e).length∧∀ (j:Nat) (d:D) (ck:CK),row[j]? =some d→(cksOf tt e)[j]? =some ck→∃ v,news[k*(cksOf tt e).length+j]? =some v∧RD tt Pp ck v d):
 ∀ (k:Nat) (row:List D),(olds++rows)[k]? =some row→row.length=(cksOf tt e).length∧∀ (j:Nat) (d:D) (ck:CK),row[j]? =some d→(cksOf tt e)[j]? =some ck→∃ v,(oldc++news++zs)[k*(cksOf tt e).length+j]? =some v∧RD tt Pp ck v d:=by
 intro k row hk
 rcases app_get hk with ⟨hlt,h1⟩|⟨k',rfl,h1⟩
 ·obtain ⟨e1,e2⟩:=ho k row h1
  refine ⟨e1,fun j d ck hj hck=> ?_⟩
  obtain ⟨v,hv,hr⟩:=e2 j d ck hj hck
  exact ⟨v,app_left (app_left hv),hr⟩
 ·obtain ⟨e1,e2⟩:=hn k' row h1
  refine ⟨e1,fun j d ck hj hck=> ?_⟩
  obtain ⟨v,hv,hr⟩:=e2 j d ck hj hck
  refine ⟨v,app_left ?_,hr⟩
  rw [show (olds.length+k')*(cksOf tt e).length+j=oldc.length+(k'*(cksOf tt e).length+j) by rw [hol,Nat.add_mul];omega]
  exact app_right hv
theorem resolve_append {o:Oper} {x y:Operand} {t1 t2:TypeId} {as:Array Operand} {ts:Array TypeId} (hop:o.op= .call { callee:=.builtin .append,args:=as,argTypes:=ts }) (has:as.toList=[x,y]) (hts:ts.toList=[t1,t2]) {v:Value} {w':World}
 (h:(Builtin.append_ #[t1,t2] o.type #[a.eval x,a.eval y]).run P w= .ok v w'):(execOp a.eval o).run P w= .ok (.value v) w':=by
 obtain rfl:as= #[x,y]:=by cases as;simp at has;simp [has]
 obtain rfl:ts= #[t1,t2]:=by cases ts;simp at hts;simp [hts]
 simp [execOp,hop,resolve,invoke,builtin,h]
theorem append_lsf_ok (htt:TtOk P tt) (h:SimW tt B E Pp st.o w) (hs:∀ t,VR tt E Pp (a.tmps.getD t undef) (look st.s t)) {o:Oper} {x y:Operand} {t1 t2 e:TypeId} {as:Array Operand} {ts:Array TypeId}
 (hop:o.op= .call { callee:=.builtin .append,args:=as,argTypes:=ts }) (has:as.toList=[x,y]) (hts:ts.toList=[t1,t2])
 {i1 i2 ei:TI} (h1:tt t1=some i1) (h2:tt t2=some i2) (he1:sliceEl i1=some e) (he2:P.underlying t2=some (.slice e)∨P.underlying t2=some .string) (hei:tt e=some ei) (hb:ei.bytes≤1024)
 {rows:List (List D)} {news:List Value} (hR:Reads tt Pp w e (a.eval y) rows news) {d:D} (hx:VR tt E Pp (a.eval x) (.lsf e d))
 (hlen:std.len d+rows.length≤4294967296) {K:PV→St→Prop}
 (hK:(0<rows.length∧K (.row e (lenL st.o)) ⟨st.s,appL st.o [.row e (std.app d (.list rows)) true]⟩)∨K (.lst e (std.app d (.list rows))) st)
 {Q:Exit→Act→World→Prop}:o.wp P a w (Post tt B keep E Pp st.o w o a K) Q:=by
 have hop':= @resolve_append P w a o x y t1 t2 as ts hop has hts
 generalize hgx:a.eval x=vx at hx hop'
 cases hx with
 |lsf _ base n _ hr=>
  obtain ⟨olds,oldc,rfl,hO⟩:=Reads.of_rd h.wr hr
  have hn:n=olds.length:=by
   rcases hO.shape with ⟨_,he,h0⟩|⟨b,o',c,he,_⟩|⟨_,he,_⟩
   ·cases he;simp [h0]
   ·cases he;rfl
   ·cases he
  subst hn
  by_cases h0:rows=[]
  ·subst h0
   rcases hK with ⟨hp,_⟩|hK
   ·simp at hp
   ·have hrun:=append_nilroom (ty:=o.type) (n:=olds.length) (cap:=olds.length) (base:=base) h1 h2 he1 he2 hei htt hR (Nat.le_refl _)
    refine wp_val (hop' hrun) ?_
    refine Post.mk (s':=st.s) (o':=st.o) (.lst _ _ _ ?_) hs h hK (fun _ ad v hv=>hv)
    simpa [rowsD] using hr
  ·have hpos:0<rows.length:=List.length_pos_iff.2 h0
   obtain ⟨nc,zs,hnc,hzl,hrun⟩:=append_grow (ty:=o.type) h1 h2 he1 he2 hei htt hR hO rfl (Nat.le_refl _) (by omega) (by simp [rowsD] at hlen;omega) hb
   have hrd:=cat_rd (zs:=zs) hO.len hO.rd hR.len hR.rd
   have hd:SimW tt B E Pp st.o w.drew:=h.drew
   have hbk:∀ k,k<w.heap.size→(w.drew.alloc (.cells ⟨oldc++news++zs⟩ e)).heap[k]? =w.heap[k]? :=fun k hk=>RowKit.Below.heap_alloc w.drew _ k hk
   have hsz:(oldc++news++zs).length=nc*(cksOf tt e).length:=by
    simp only [List.length_append,hO.len,hR.len,hzl,←Nat.add_mul]
    congr 1;omega
   refine wp_val (hop' hrun) ?_
   rcases hK with ⟨_,hK⟩|hK
   ·rw [appL_eq,lenL_eq] at hK
    refine Post.mk (E':=E++[.row w.heap.size 0 (olds.length+rows.length) nc]) (Pp':=Pp) (.row _ _ _ _ _ _ (by rw [← h.wr.len];simp)) (slots_push hs) ?_ hK (fun _ ad v hv=>hv.grow h.wr.len (fun _ _ h=>h) hbk)
    refine hd.new rfl ⟨_,e,olds++rows,heap_alloc_at w.drew _,rfl,by simp,hnc,by omega,?_,fun _=>nopi_new h.wr,fun hf=>by simp at hf⟩
    intro k row hk
    obtain ⟨e1,e2⟩:=hrd k row hk
    refine ⟨e1,fun j d ck hj hck=> ?_⟩
    obtain ⟨v,hv,hr⟩:=e2 j d ck hj hck
    exact ⟨v,by simpa using hv,hr⟩
   ·have hS:=hd.lay (oldc++news++zs) e
    refine Post.mk (s':=st.s) (o':=st.o) (.lst _ _ _ ?_) (fun t=>(hs t).mono (fun _ _ h=>h) (fun _ _ h=>.inl h)) hS hK ?_
    ·refine .sl e w.heap.size 0 _ nc (olds++rows) (fun i j=>(oldc++news++zs).getD (i*(cksOf tt e).length+j) undef) (by simp) hnc (fun i row hi=>(hrd i row hi).1) ?_ ?_
     ·intro i j hi hj
      have hri:(olds++rows)[i]? =some ((olds++rows)[i]'(by simp;omega)):=List.getElem?_eq_getElem _
      obtain ⟨hlr,hc⟩:=hrd i _ hri
      obtain ⟨v,hv,_⟩:=hc j _ _ (List.getElem?_eq_getElem (by omega)) (List.getElem?_eq_getElem hj)
      refine .inr ⟨rfl,?_⟩
      exact (cell_of_block (heap_alloc_at w.drew (.cells ⟨oldc++news++zs⟩ e)) (0+i*(cksOf tt e).length+j)).trans (by rw [Nat.zero_add,List.getD,hv];rfl)
     ·intro i j row d ck hi hj hck
      obtain ⟨v,hv,hr⟩:=(hrd i row hi).2 j d ck hj hck
      simp only [List.getD,hv,Option.getD_some]
      exact hr.mono (fun _ _ h=>.inl h)
    ·intro _ ad v hv
     simpa using hv.grow (E2:=[]) (objs2:=[]) (Pp':=fun ad v=>Pp ad v∨(ad.block=w.drew.heap.size∧(w.drew.alloc (.cells ⟨oldc++news++zs⟩ e)).cell? ad=some v)) h.wr.len (fun _ _ h=>.inl h) hbk
theorem killO_get (r:Nat):∀ (l:List Ob) (i:Nat),(killO r l)[i]? =(l[i]?).map fun o=>match o with| .box cs=>.box (mapL (kill r) cs)| .loop n ps a c s j=>.loop n ps a c (killS r s) j|o=>o
 |[],i=>by simp [killO]
 |o::l,i=>by cases o<;>cases i<;>simp [killO,killO_get r l]
theorem killO_length (r:Nat):∀ (l:List Ob),(killO r l).length=l.length
 |[]=>rfl
 |o::l=>by cases o<;>simp [killO,killO_length r l]
theorem kills_ok {r:Nat} {E':List RI} (hE:∀ (i:Nat) x,i≠r→E[i]? =some x→E'[i]? =some x) {ps:List PV} {vs:List Value} (hv:VRL tt E Pp vs ps):VRL tt E' Pp vs (mapL (kill r) ps):=by
 induction ps generalizing vs with
 |nil=>cases hv;exact .nil
 |cons p ps ih=>cases hv with|cons _ _ _ _ h1 h2=>exact .cons _ _ _ _ (kill_ok hE h1) (ih h2)
theorem SimW.rowTurn {w':World} {r:Nat} {e:TypeId} {d d':D} {wr:Bool} {ri ri':RI} {Pp':Per} (h:SimW tt B E Pp objs w) (ho:objs[r]? =some (.row e d wr)) (hE:E[r]? =some ri) (hr0:B.E0.length≤r)
 (hor:OR tt (E.set r ri') Pp' w' ri' (.row e d' wr)) (hmap:∀ b n c,ri≠ .map b n c)
 (hos:w'.os=w.os) (htp:w'.tape=w.tape) (hout:w'.output=w.output) (hsz:w.heap.size≤w'.heap.size)
 (hblk:∀ b,b<w.heap.size→ri.block? ≠some b→w'.heap[b]? =w.heap[b]?)
 (hPp:∀ ad v,Pp ad v→Pp' ad v) (hnew:∀ ad v,Pp' ad v→Pp ad v∨ri.block? =some ad.block∨w.heap.size≤ad.block)
 (hri':∀ b,ri'.block? =some b→ri.block? =some b∨w.heap.size≤b)
 (hpi:∀ ad v,Pp' ad v→pc w' ad=some v) (hdr:w.drawn≤w'.drawn:=by first|exact Nat.le_refl _|exact Nat.le_succ _|assumption):SimW tt B (E.set r ri') Pp' ((killO r objs).set r (.row e d' wr)) w':=by
 have hl:=h.wr.len
 have hr:=lt_of_get ho
 have hE':∀ (i:Nat) x,i≠r→E[i]? =some x→(E.set r ri')[i]? =some x:=by
  intro i x hi hx
  rw [List.getElem?_set_ne (Ne.symm hi)];exact hx
 refine h.turn ho rfl hE (by simp) (fun j hj=>List.getElem?_set_ne (Ne.symm hj)) (by rw [List.getElem?_set_self (by omega)]) (.inr hr0) (by simp [killO_length]) ?_ (by rw [List.getElem?_set_self (by rw [killO_length];exact hr)]) (fun _=>hor) hos htp hout hsz hblk hPp hnew hri' hpi
 intro j oj' hj hoj hlv
 rw [List.getElem?_set_ne (Ne.symm hj),killO_get] at hoj
 cases hx:objs[j]? with
 |none=>rw [hx] at hoj;simp at hoj
 |some oj=>
  rw [hx] at hoj
  simp only [Option.map_some,Option.some.injEq] at hoj
  refine ⟨oj,rfl,by cases oj<;>simp_all [Ob.live]<;>(subst hoj;simp at hlv),?_⟩
  intro rj hrj hor'
  cases oj with
  |box cs=>
   simp only at hoj;subst hoj
   cases rj<;>try exact hor'.elim
   ·obtain ⟨vs,T,h1,h2,h3,h4⟩:=hor'
    exact ⟨vs,T,h1,kills_ok hE' h2,h3,h4.map (kill_bld r)⟩
   ·exact hor'.imp fun _ a=>⟨a.1,kills_ok hE' a.2.1,a.2.2⟩
  |row=>simp only at hoj;subst hoj;cases rj<;>exact hor'
  |map=>simp only at hoj;subst hoj;cases rj<;>exact hor'
  |diter=>simp only at hoj;subst hoj;cases rj<;>exact hor'
  |iter m s=>
   simp only at hoj;subst hoj
   cases rj<;>try exact hor'.elim
   obtain ⟨bm,borns,clock,ls,h1,h2⟩:=hor'
   refine ⟨bm,borns,clock,ls,hE' _ _ ?_ h1,h2⟩
   rintro rfl
   rw [hE] at h1;cases h1
   exact hmap _ _ _ rfl
  |loop n qs c1 c2 s jj=>
   simp only at hoj;subst hoj
   cases rj<;>try exact hor'.elim
   obtain ⟨r',h1,h2,h3⟩:=hor'
   exact ⟨r',h1,h2,fun t=>by rw [look_killS];exact kill_ok hE' (h3 t)⟩
  |dead=>simp only at hoj;subst hoj;cases rj<;>exact hor'
theorem Held.killed {Pp':Per} {w':World} {E':List RI} {r:Nat} {ob:Ob} {ad:Addr} {v:Value} (hv:Held tt E Pp objs w ad v) (hr:r<objs.length)
 (hp:∀ ad v,Pp ad v→Pp' ad v) (hE':∀ (i:Nat) x,i≠r→E[i]? =some x→E'[i]? =some x) (hc:∀ (i:Nat),i≠r→w.cell? ad=some v→(∃ cs,objs[i]? =some (.box cs)∧E[i]? =some (.box ad.block))∨
 (∃ e d wr o len cap,objs[i]? =some (.row e d wr)∧E[i]? =some (.row ad.block o len cap))→w'.cell? ad=some v)
 (hthis:w.cell? ad=some v→((∃ cs,objs[r]? =some (.box cs)∧E[r]? =some (.box ad.block))∨(∃ e d wr o len cap,objs[r]? =some (.row e d wr)∧E[r]? =some (.row ad.block o len cap)∧ad.off<o+len*(cksOf tt e).length))→
   Held tt E' Pp' ((killO r objs).set r ob) w' ad v):Held tt E' Pp' ((killO r objs).set r ob) w' ad v:=by
 rcases hv with hv|⟨hc0,i,ho⟩
 ·exact .inl (hp _ _ hv)
 ·by_cases hi:i=r
  ·subst hi;exact hthis hc0 ho
  ·refine .inr ⟨hc i hi hc0 ?_,i,?_⟩
   ·rcases ho with ho|⟨e,d,wr,o,len,cap,h1,h2,h3⟩
    ·exact .inl ho
    ·exact .inr ⟨e,d,wr,o,len,cap,h1,h2⟩
   ·rcases ho with ⟨cs,h1,h2⟩|⟨e,d,wr,o,len,cap,h1,h2,h3⟩
    ·exact .inl ⟨mapL (kill r) cs,by rw [List.getElem?_set_ne (Ne.symm hi),killO_get,h1];rfl,hE' _ _ hi h2⟩
    ·exact .inr ⟨e,d,wr,o,len,cap,by rw [List.getElem?_set_ne (Ne.symm hi),killO_get,h1];rfl,hE' _ _ hi h2,h3⟩
theorem block_of_cell {ad:Addr} {v:Value} {vs:List Value} {T:TypeId} {fr:Nat×Nat} (hg:w.heap[ad.block]? =some (.cells ⟨vs⟩ T fr)) (h:w.cell? ad=some v):ad.spot.isSome=false∧vs[ad.off]? =some v:=by
 simp only [World.cell?,hg] at h
 cases hs:ad.spot.isSome with
 |true=>simp [hs] at h
 |false=>simp [hs] at h;exact ⟨rfl,h⟩
theorem kill_slots {Pp':Per} {r:Nat} {ri':RI} (hs:∀ t,VR tt E Pp (a.tmps.getD t undef) (look st.s t)) (hp:∀ ad v,Pp ad v→Pp' ad v):∀ t,VR tt (E.set r ri') Pp' (a.tmps.getD t undef) (look (killS r st.s) t):=by
 intro t
 rw [look_killS]
 exact (kill_ok (fun i x hi hx=>by rw [List.getElem?_set_ne (Ne.symm hi)];exact hx) (hs t)).mono (fun _ _ h=>h) hp
theorem row_grow_ok (htt:TtOk P tt) (h:SimW tt B E Pp st.o w) (hs:∀ t,VR tt E Pp (a.tmps.getD t undef) (look st.s t)) {o:Oper} {x y:Operand} {t1 t2 e:TypeId} {as:Array Operand} {ts:Array TypeId}
 (hop:o.op= .call { callee:=.builtin .append,args:=as,argTypes:=ts }) (has:as.toList=[x,y]) (hts:ts.toList=[t1,t2])
 {i1 i2 ei:TI} (h1:tt t1=some i1) (h2:tt t2=some i2) (he1:sliceEl i1=some e) (he2:P.underlying t2=some (.slice e)∨P.underlying t2=some .string) (hei:tt e=some ei) (hb:ei.bytes≤1024)
 {rows olds:List (List D)} {news oldc:List Value} (hR:Reads tt Pp w e (a.eval y) rows news) (hO:Reads tt Pp w e (a.eval x) olds oldc) {base:Option Addr} {cap:Nat} (hx:a.eval x= .slice base olds.length cap) (hcap:olds.length≤cap)
 (hg:cap<olds.length+rows.length) (hlen:olds.length+rows.length≤4294967296) {r:Nat} {wr:Bool} {ri:RI} (hob:st.o[r]? =some (.row e (.list olds) wr)) (hE:E[r]? =some ri) (hr0:B.E0.length≤r)
 (hri:ri= .row0∨∃ g o0 cap',ri= .row g o0 olds.length cap')
 {K:PV→St→Prop} (hK:K (.row e r) ⟨killS r st.s,setO (killO r st.o) r (.row e (.list (olds++rows)) wr)⟩)
 {Q:Exit→Act→World→Prop}:o.wp P a w (Post tt B keep E Pp st.o w o a K) Q:=by
 have hop':= @resolve_append P w a o x y t1 t2 as ts hop has hts
 obtain ⟨nc,zs,hnc,hzl,hrun⟩:=append_grow (ty:=o.type) h1 h2 he1 he2 hei htt hR hO hx hcap hg hlen hb
 have hrd:=cat_rd (zs:=zs) hO.len hO.rd hR.len hR.rd
 have hsz:(oldc++news++zs).length=nc*(cksOf tt e).length:=by
  simp only [List.length_append,hO.len,hR.len,hzl,←Nat.add_mul]
  congr 1;omega
 have hbk:∀ k,k<w.heap.size→(w.drew.alloc (.cells ⟨oldc++news++zs⟩ e)).heap[k]? =w.heap[k]? :=fun k hk=>RowKit.Below.heap_alloc w.drew _ k hk
 have hnewb:(w.drew.alloc (.cells ⟨oldc++news++zs⟩ e)).heap[w.heap.size]? =some (.cells ⟨oldc++news++zs⟩ e (0,0)):=heap_alloc_at w.drew _
 generalize hw':w.drew.alloc (.cells ⟨oldc++news++zs⟩ e)=w' at*
 have hdr:w.drawn≤w'.drawn:=by rw [← hw'];exact Nat.le_succ _
 let Pp':Per:=fun ad v=>Pp ad v∨(wr=false∧ad.block=w.heap.size∧ad.off<(olds.length+rows.length)*(cksOf tt e).length∧w'.cell? ad=some v)∨
  (w.cell? ad=some v∧ri.block? =some ad.block∧∃ g o0 cap',ri= .row g o0 olds.length cap'∧ad.off<o0+olds.length*(cksOf tt e).length)
 have hcold:∀ ad v,w.cell? ad=some v→w'.cell? ad=some v:=fun ad v hc=>by rw [cell?_same (hbk _ (World.block_lt_of_cell? w ad hc))];exact hc
 have hlr:=lt_of_get hob
 have hS:SimW tt B (E.set r (.row w.heap.size 0 (olds.length+rows.length) nc)) Pp' ((killO r st.o).set r (.row e (.list (olds++rows)) wr)) w':=by
  refine h.rowTurn hob hE hr0 ?_ ?_ (by rw [← hw'];rfl) (by rw [← hw'];rfl) (by rw [← hw'];rfl) (by rw [← hw'];simp) (fun b hb _=>hbk b hb) (fun _ _ h=>.inl h) ?_ (fun b hb=>.inr ?_) ?_
  ·refine ⟨_,e,olds++rows,hnewb,rfl,by simp,hnc,by omega,?_,?_,?_⟩
   ·intro k row hk
    obtain ⟨e1,e2⟩:=hrd k row hk
    refine ⟨e1,fun j d ck hj hck=> ?_⟩
    obtain ⟨v,hv,hr⟩:=e2 j d ck hj hck
    exact ⟨v,by rw [Nat.zero_add];exact hv,hr.mono (fun _ _ h=>.inl h)⟩
   ·intro hwr ad v hv
    rcases hv with hv|⟨hf,_⟩|⟨hc,_⟩
    ·exact nopi_new h.wr ad v hv
    ·rw [hwr] at hf;cases hf
    ·have:=World.block_lt_of_cell? w ad hc;omega
   ·intro hwr
    refine ⟨?_,?_⟩
    ·intro i j v hi hj hv
     refine .inr (.inl ⟨hwr,rfl,?_,?_⟩)
     ·show 0+i*(cksOf tt e).length+j<_
      have:=mul_lt_of hi hj;omega
     ·rw [cell_of_block hnewb];exact hv
    ·intro ad v hv hbl
     rcases hv with hv|⟨_,_,hlt,_⟩|⟨hc,_⟩
     ·exact absurd hbl (nopi_new h.wr ad v hv)
     ·rw [Nat.zero_add];exact .inr hlt
     ·have:=World.block_lt_of_cell? w ad hc;omega
  ·rintro b n c rfl
   rcases hri with hri|⟨_,_,_,hri⟩<;>cases hri
  ·intro ad v hv
   rcases hv with hv|⟨_,hb,_⟩|⟨_,hb,_⟩
   ·exact .inl hv
   ·exact .inr (.inr (by omega))
   ·exact .inr (.inl hb)
  ·simp [RI.block?] at hb;omega
  ·intro ad v hv
   rcases hv with hv|⟨_,_,_,hc⟩|⟨hc,_⟩
   ·rw [pc_same (hbk _ (pc_lt (h.wr.pi ad v hv)))];exact h.wr.pi ad v hv
   ·exact pc_of_cell hc
   ·exact pc_of_cell (hcold ad v hc)
 refine wp_val (hop' hrun) ?_
 rw [setO_eq] at hK
 refine Post.mk (.row _ _ _ _ _ _ (by rw [List.getElem?_set_self (by rw [h.wr.len];exact hlr)])) (kill_slots hs (fun _ _ h=>.inl h)) hS hK ?_
 intro _ ad v hv
 refine hv.killed hlr (fun _ _ h=>.inl h) (fun i x hi hx=>by rw [List.getElem?_set_ne (Ne.symm hi)];exact hx) (fun i _ hc _=>hcold ad v hc) ?_
 intro hc ho
 rcases ho with ⟨cs,h3,_⟩|⟨e',d',wr',o',len',cap',h3,h4,h5⟩
 ·rw [hob] at h3;cases h3
 ·rw [hob] at h3;cases h3
  rw [hE] at h4;cases h4
  rcases hri with hri|⟨g,o0,cap2,hri⟩
  ·cases hri
  ·cases hri
   exact .inl (.inr (.inr ⟨hc,rfl,_,_,_,rfl,h5⟩))
theorem row_room_ok (htt:TtOk P tt) (h:SimW tt B E Pp st.o w) (hs:∀ t,VR tt E Pp (a.tmps.getD t undef) (look st.s t)) {o:Oper} {x y:Operand} {t1 t2 e:TypeId} {as:Array Operand} {ts:Array TypeId}
 (hop:o.op= .call { callee:=.builtin .append,args:=as,argTypes:=ts }) (has:as.toList=[x,y]) (hts:ts.toList=[t1,t2])
 {i1 i2 ei:TI} (h1:tt t1=some i1) (h2:tt t2=some i2) (he1:sliceEl i1=some e) (he2:P.underlying t2=some (.slice e)∨P.underlying t2=some .string) (hei:tt e=some ei)
 {rows olds:List (List D)} {news:List Value} (hR:Reads tt Pp w e (a.eval y) rows news) {g o0 cap:Nat} (hx:a.eval x= .slice (some ⟨g,o0,none⟩) olds.length cap)
 (hroom:olds.length+rows.length≤cap) {r:Nat} {wr:Bool} (hob:st.o[r]? =some (.row e (.list olds) wr)) (hE:E[r]? =some (.row g o0 olds.length cap)) (hr0:B.E0.length≤r)
 {K:PV→St→Prop} (hK:K (.row e r) ⟨killS r st.s,setO (killO r st.o) r (.row e (.list (olds++rows)) wr)⟩)
 {Q:Exit→Act→World→Prop}:o.wp P a w (Post tt B keep E Pp st.o w o a K) Q:=by
 have hop':= @resolve_append P w a o x y t1 t2 as ts hop has hts
 obtain ⟨ri,hri,hor⟩:=h.wr.ob r _ hob rfl
 rw [hE] at hri;cases hri
 obtain ⟨vs,T,rows0,hg,hd0,hl,hcap,hsz,hrow,hnp,hfz⟩:=hor
 cases hd0
 generalize hS:(cksOf tt e).length=S at*
 have hnl:=hR.len
 rw [hS] at hnl
 have hle:(olds.length+rows.length)*S≤cap*S:=Nat.mul_le_mul_right _ hroom
 rw [Nat.add_mul] at hle
 have hrun:=append_room (ty:=o.type) (n:=olds.length) (o:=o0) (cur:=vs) h1 h2 he1 he2 hei htt hR hg hroom (by rw [hS];omega)
 rw [hS] at hrun
 rw [hx] at hop'
 generalize hw':w.setRow g ⟨vs.take (o0+olds.length*S)++news++vs.drop (o0+olds.length*S+news.length)⟩=w' at*
 have hdr:w.drawn≤w'.drawn:=by rw [← hw'];exact Nat.le_refl _
 have hg':w'.heap[g]? =some (.cells ⟨vs.take (o0+olds.length*S)++news++vs.drop (o0+olds.length*S+news.length)⟩ e (0,0)):=by rw [← hw'];exact setRow_heap w g _ _ _ _ hg
 have hoth:∀ k,k≠g→w'.heap[k]? =w.heap[k]? :=fun k hk=>by rw [← hw'];exact setRow_other w g k _ hk
 have hlr:=lt_of_get hob
 have hkeep:∀ ad v,w.cell? ad=some v→(ad.block=g→cap=0∨ad.off<o0+olds.length*S)→w'.cell? ad=some v:=by
  intro ad v hc hlt
  by_cases hbg:ad.block=g
  ·have hlt:=hlt hbg
   obtain ⟨h3,h4⟩:=block_of_cell (by rw [hbg];exact hg) hc
   simp only [World.cell?,hbg,hg',h3,Bool.false_eq_true,if_false]
   have hnot:¬(o0+olds.length*S≤ad.off∧ad.off<o0+olds.length*S+news.length):=by
    rcases hlt with h0|hlt
    ·have:rows.length=0:=by omega
     rw [this,Nat.zero_mul] at hnl
     omega
    ·omega
   rw [← Array.getElem?_toList,splice_get (by omega),if_neg hnot]
   exact h4
  ·rw [cell?_same (hoth _ hbg)];exact hc
 let Pp':Per:=fun ad v=>Pp ad v∨(wr=false∧ad.block=g∧ad.off<o0+(olds.length+rows.length)*S∧w'.cell? ad=some v)
 have hSim:SimW tt B (E.set r (.row g o0 (olds.length+rows.length) cap)) Pp' ((killO r st.o).set r (.row e (.list (olds++rows)) wr)) w':=by
  refine h.rowTurn hob hE hr0 ?_ (fun b n c hc=>by cases hc) (by rw [← hw'];rfl) (by rw [← hw'];rfl) (by rw [← hw'];rfl) (by rw [← hw'];simp) ?_ (fun _ _ h=>.inl h) ?_ (fun b hb=>.inl hb) ?_
  ·refine ⟨_,T,olds++rows,hg',rfl,by simp,hroom,by rw [hS];simp;omega,?_,?_,?_⟩
   ·intro k row hk
    rw [hS]
    rcases app_get hk with ⟨hlt,h3⟩|⟨k',rfl,h3⟩
    ·obtain ⟨e1,e2⟩:=hrow k row h3
     rw [hS] at e1 e2
     refine ⟨e1,fun j d ck hj hck=> ?_⟩
     obtain ⟨v,hv,hr⟩:=e2 j d ck hj hck
     have hjl:=lt_of_get hck
     rw [hS] at hjl
     have:=mul_lt_of hlt hjl
     exact ⟨v,by rw [splice_get (by omega),if_neg (by omega)];exact hv,hr.mono (fun _ _ h=>.inl h)⟩
    ·obtain ⟨e1,e2⟩:=hR.rd k' row h3
     rw [hS] at e1 e2
     refine ⟨e1,fun j d ck hj hck=> ?_⟩
     obtain ⟨v,hv,hr⟩:=e2 j d ck hj hck
     have hjl:=lt_of_get hck
     rw [hS] at hjl
     have:=mul_lt_of (lt_of_get h3) hjl
     refine ⟨v,?_,hr.mono (fun _ _ h=>.inl h)⟩
     rw [splice_get (by omega),if_pos (by rw [Nat.add_mul];omega),show o0+(olds.length+k')*S+j-(o0+olds.length*S)=k'*S+j by rw [Nat.add_mul];omega]
     exact hv
   ·intro hwr ad v hv
    rcases hv with hv|⟨hf,_⟩
    ·exact hnp hwr ad v hv
    ·rw [hwr] at hf;cases hf
   ·intro hwr
    obtain ⟨_,hf2⟩:=hfz hwr
    rw [hS]
    refine ⟨?_,?_⟩
    ·intro i j v hi hj hv
     refine .inr ⟨hwr,rfl,?_,?_⟩
     ·show o0+i*S+j<_
      have:=mul_lt_of hi hj;omega
     ·rw [cell_of_block hg'];exact hv
    ·intro ad v hv hbl
     rcases hv with hv|⟨_,_,hlt,_⟩
     ·have:=hf2 ad v hv hbl
      rw [Nat.add_mul];omega
     ·exact .inr hlt
  ·intro b _ hb
   exact hoth b (fun e=>hb (by rw [e];rfl))
  ·intro ad v hv
   rcases hv with hv|⟨_,hb,_⟩
   ·exact .inl hv
   ·exact .inr (.inl (by rw [hb];rfl))
  ·intro ad v hv
   rcases hv with hv|⟨_,_,_,hc⟩
   ·by_cases hbg:ad.block=g
    rotate_left
    ·rw [pc_same (hoth _ hbg)];exact h.wr.pi ad v hv
    by_cases hsp:ad.spot=some 1
    ·exact pc_size (h.wr.pi ad v hv) (by rw [hbg];exact hg) (by rw [hbg];exact hg') (show List.length _=List.length _ by simp only [List.length_append,List.length_take,List.length_drop];omega) hsp
    refine pc_of_cell (hkeep ad v (pc_cells (h.wr.pi ad v hv) (by rw [hbg];exact hg) hsp) (fun hbl=> ?_))
    cases hwr:wr with
    |true=>exact absurd hbl (hnp hwr ad v hv)
    |false=>
     obtain ⟨_,hf2⟩:=hfz hwr
     exact hf2 ad v hv hbl
   ·exact pc_of_cell hc
 refine wp_val (hop' hrun) ?_
 rw [setO_eq] at hK
 refine Post.mk (.row _ _ _ _ _ _ (by rw [List.getElem?_set_self (by rw [h.wr.len];exact hlr)])) (kill_slots hs (fun _ _ h=>.inl h)) hSim hK ?_
 intro _ ad v hv
 refine hv.killed hlr (fun _ _ h=>.inl h) (fun i x hi hx=>by rw [List.getElem?_set_ne (Ne.symm hi)];exact hx) ?_ ?_
 ·intro i hi hc ho
  refine hkeep ad v hc (fun hbl=> ?_)
  exfalso
  rcases ho with ⟨cs,h3,h4⟩|⟨e',d',wr',o',len',cap',h3,h4⟩
  ·exact hi (h.wr.sep i r _ _ _ _ g h3 hob rfl rfl h4 hE (by rw [hbl];rfl) rfl)
  ·exact hi (h.wr.sep i r _ _ _ _ g h3 hob rfl rfl h4 hE (by rw [hbl];rfl) rfl)
 ·intro hc ho
  rcases ho with ⟨cs,h3,_⟩|⟨e',d',wr',o',len',cap',h3,h4,h5⟩
  ·rw [hob] at h3;cases h3
  ·rw [hob] at h3;cases h3
   rw [hE] at h4
   simp only [Option.some.injEq,RI.row.injEq] at h4
   obtain ⟨q1,q2,q3,q4⟩:=h4
   rw [hS] at h5
   refine .inr ⟨hkeep ad v hc (fun _=>.inr (by rw [q2,q3];exact h5)),r,.inr ⟨e,_,wr,o0,olds.length+rows.length,cap,by rw [List.getElem?_set_self (by rw [killO_length];exact hlr)],?_,?_⟩⟩
   ·rw [List.getElem?_set_self (by rw [h.wr.len];exact hlr),←q1]
   ·rw [hS,Nat.add_mul];rw [← q2,←q3] at h5;omega
theorem rowSlice_ok (htt:TtOk P tt) (h:SimW tt B E Pp st.o w) (hs:∀ t,VR tt E Pp (a.tmps.getD t undef) (look st.s t)) {o:Oper} {t e:TypeId} {x:Operand} {lo:Option Operand}
 (hop:o.op= .slice t x lo none none) {ti ei:TI} (hti:tt t=some ti) (he:sliceEl ti=some e) (hei:tt e=some ei) {r:Nat} {d:D} {wr:Bool} (hob:st.o[r]? =some (.row e d wr))
 (hv:VR tt E Pp (a.eval x) (.row e r)) (hr0:B.E0.length≤r) {l:Int} (hl0:0≤l) (hl1:l≤((rowsD d).length:Int)) (hlo:(lo=none∧l=0)∨∃ y k,lo=some y∧a.eval y= .int k l)
 {K:PV→St→Prop} (hK:K (.row e r) ⟨killS r st.s,setO (killO r (hurtO [r] 0 st.o)) r (.row e (std.part d l (std.len d)) false)⟩)
 {Q:Exit→Act→World→Prop}:o.wp P a w (Post tt B keep E Pp st.o w o a K) Q:=by
 have h1:=h.hurt [r]
 have hs1:∀ t,VR tt E (hurtP tt E st.o w Pp [r]) (a.tmps.getD t undef) (look st.s t):=fun t=>(hs t).mono (fun _ _ h=>h) (fun _ _ h=>.inl h)
 have hob1:(hurtO [r] 0 st.o)[r]? =some (.row e d false):=by
  rw [hurtO_get,hob];simp [memL,hurt1]
 have hlr1:r<(hurtO [r] 0 st.o).length:=lt_of_get hob1
 have hlE:r<E.length:=by rw [h1.wr.len];exact hlr1
 have hu:=((htt _ _ hti).slice he).1
 have hs2:=(htt _ _ hei).run (P:=P) w
 have hcks:cksOf tt e=ei.cks:=by simp [cksOf,hei]
 have hbd:∀ len cap:Nat,(rowsD d).length=len→len≤cap→(Instr.sliceBounds true len cap (lo.map a.eval) none none).run P w= .ok (l.toNat,len,cap) w:=by
  intro len cap hlen hcap
  simp only [Instr.sliceBounds,Option.map_none,Sem.run_bind,Sem.run_pure,Result.andThen_ok]
  rcases hlo with ⟨rfl,rfl⟩|⟨x1,k1,rfl,e1⟩
  ·simp
  ·simp [e1,sliceBound_ok (P:=P) (w:=w) (k:=k1) (n:=l) (y:=len) ⟨hl0,by omega⟩]
 obtain ⟨ri,hri,hor⟩:=h1.wr.ob r _ hob1 rfl
 generalize hx:a.eval x=vx at hv
 cases hv with
 |row0 _ _ hE=>
  rw [hri] at hE;cases hE
  simp only [OR] at hor
  subst hor
  obtain rfl:l=0:=by simp [rowsD] at hl1;omega
  have hrun:(execOp a.eval o).run P w= .ok (.value (.slice none 0 0)) w:=by
   simp [execOp,hop,hx,Instr.sliceAt,run_underlying hu,Instr.slice,hbd 0 0 rfl (Nat.le_refl _),hs2.2.1]
  have hS:=h1.rowTurn (d':=std.part (.list []) 0 (std.len (.list []))) (ri':=.row0) (w':=w) hob1 hri hr0 (by simp only [OR];rfl) (fun b n c hc=>by cases hc) rfl rfl rfl (Nat.le_refl _) (fun b _ _=>rfl) (fun _ _ h=>h) (fun _ _ h=>.inl h) (fun b hb=>by simp [RI.block?] at hb) h1.wr.pi
  refine wp_val hrun ?_
  rw [setO_eq] at hK
  refine Post.mk (.row0 _ _ (by rw [List.getElem?_set_self hlE])) (kill_slots hs1 (fun _ _ h=>h)) hS hK ?_ (fun _ _ h=>.inl h)
  intro _ ad v hv
  refine (hv.hurt [r]).killed hlr1 (fun _ _ h=>h) (fun i x hi hx=>by rw [List.getElem?_set_ne (Ne.symm hi)];exact hx) (fun i _ hc _=>hc) ?_
  intro hc ho
  rcases ho with ⟨cs,h3,_⟩|⟨e',d',wr',o',len',cap',h3,h4,h5⟩
  ·rw [hob1] at h3;cases h3
  ·rw [hri] at h4;cases h4
 |row _ _ g o0 len cap hE=>
  rw [hri] at hE;cases hE
  obtain ⟨vs,T,rows,hg,hd0,hlen,hcap,hfit,hrow,hnp,hfz⟩:=hor
  subst hd0
  have hfz:=hfz rfl
  generalize hS:(cksOf tt e).length=S at*
  obtain ⟨k,rfl⟩:∃ k:Nat,l=k:=⟨l.toNat,by omega⟩
  simp only [rowsD] at hl1 hbd
  have hk:k≤len:=by omega
  have hrun:(execOp a.eval o).run P w= .ok (.value (.slice (some (if cap=k then (⟨g,o0,none⟩:Addr) else ⟨g,o0+k*S,none⟩)) (len-k) (cap-k))) w:=by
   have:(if cap=k then some (⟨g,o0,none⟩:Addr) else some ⟨g,o0+k*S,none⟩)=some (if cap=k then (⟨g,o0,none⟩:Addr) else ⟨g,o0+k*S,none⟩):=by split<;>rfl
   rw [← this]
   rw [hcks] at hS
   simp [execOp,hop,hx,Instr.sliceAt,run_underlying hu,Instr.slice,hbd len cap hlen hcap,hs2.2.1,hS,add_none]
  have hpart:std.part (.list rows) (k:Int) (std.len (.list rows))= .list (rows.drop k):=by
   show D.list ((rows.drop (k:Int).toNat).take (((rows.length:Nat):Int).toNat-(k:Int).toNat))=_
   simp only [Int.toNat_natCast]
   rw [List.take_of_length_le (by simp)]
  rw [hpart] at hK
  obtain ⟨o1,ho1⟩:∃ o1,o1=(if cap=k then o0 else o0+k*S):=⟨_,rfl⟩
  have hoa:(if cap=k then (⟨g,o0,none⟩:Addr) else ⟨g,o0+k*S,none⟩)=⟨g,o1,none⟩:=by rw [ho1];split<;>rfl
  rw [hoa] at hrun
  have hmul:(len-k)*S=len*S-k*S:=Nat.sub_mul _ _ _
  have hmul2:(cap-k)*S=cap*S-k*S:=Nat.sub_mul _ _ _
  have hkS:k*S≤len*S:=Nat.mul_le_mul_right _ hk
  have hcS:len*S≤cap*S:=Nat.mul_le_mul_right _ hcap
  have hS2:=h1.rowTurn (d':=.list (rows.drop k)) (ri':=.row g o1 (len-k) (cap-k)) (w':=w) hob1 hri hr0 (by
   refine ⟨vs,T,rows.drop k,hg,rfl,by simp [hlen],by omega,?_,?_,by simp,fun _=>⟨?_,?_⟩⟩
   ·rw [hS,hmul2,ho1];split<;>omega
   ·intro i row hi
    rw [List.getElem?_drop] at hi
    have hlt:k+i<rows.length:=lt_of_get hi
    obtain ⟨a1,a2⟩:=hrow (k+i) row hi
    rw [hS] at a1 a2 ⊢
    refine ⟨a1,fun j dd ck hj hck=> ?_⟩
    obtain ⟨v,b1,b2⟩:=a2 j dd ck hj hck
    refine ⟨v,?_,b2⟩
    rw [← b1,ho1,if_neg (by omega),Nat.add_mul];congr 1;omega
   ·intro i j v hi hj hv
    rw [hS] at hj hv ⊢
    rw [ho1,if_neg (by omega)] at hv ⊢
    have hh:=hfz.1 (k+i) j v (by omega) hj
    rw [Nat.add_mul] at hh
    have e3:o0+k*S+i*S+j=o0+(k*S+i*S)+j:=by omega
    rw [e3] at hv ⊢
    exact hh hv
   ·intro ad v hv hb
    rw [hS,hmul,ho1]
    rcases hfz.2 ad v hv hb with h0|h0
    ·left;omega
    ·by_cases hck:cap=k
     ·left;omega
     ·right;rw [if_neg hck];omega) (fun b n c hc=>by cases hc) rfl rfl rfl (Nat.le_refl _) (fun b _ _=>rfl) (fun _ _ h=>h) (fun _ _ h=>.inl h) (fun b hb=>.inl hb) h1.wr.pi
  refine wp_val hrun ?_
  rw [setO_eq] at hK
  refine Post.mk (.row _ _ _ _ _ _ (by rw [List.getElem?_set_self hlE])) (kill_slots hs1 (fun _ _ h=>h)) hS2 hK ?_ (fun _ _ h=>.inl h)
  intro _ ad v hv
  refine (hv.hurt [r]).killed hlr1 (fun _ _ h=>h) (fun i x hi hx=>by rw [List.getElem?_set_ne (Ne.symm hi)];exact hx) (fun i _ hc _=>hc) ?_
  intro hc ho
  rcases ho with ⟨cs,h3,_⟩|⟨e',d',wr',o',len',cap',h3,h4,h5⟩
  ·rw [hob1] at h3;cases h3
  ·rw [hri] at h4
   simp only [Option.some.injEq,RI.row.injEq] at h4
   obtain ⟨q1,q2,q3,q4⟩:=h4
   rw [hob1] at h3;cases h3
   refine .inl (.inr ⟨hc,r,by simp,.inr ⟨o',len',cap',e,.list rows,wr,by rw [hri,←q1,q2,q3,q4],hob,h5⟩⟩)
theorem rowFront_ok (htt:TtOk P tt) (h:SimW tt B E Pp st.o w) (hs:∀ t,VR tt E Pp (a.tmps.getD t undef) (look st.s t)) {o:Oper} {t e:TypeId} {x y:Operand}
 (hop:o.op= .slice t x none (some y) none) {ti ei:TI} (hti:tt t=some ti) (he:sliceEl ti=some e) (hei:tt e=some ei) {r:Nat} {d:D} (hob:st.o[r]? =some (.row e d true))
 (hv:VR tt E Pp (a.eval x) (.row e r)) (hr0:B.E0.length≤r) (hne:0<((rowsD d).length:Int)) {l:Int} (hl0:0≤l) (hl1:l≤((rowsD d).length:Int)) {k1:IntKind} (e1:a.eval y= .int k1 l) (hq:isEmptyL keep.2=false)
 {K:PV→St→Prop} (hK:K (.row e r) ⟨killS r st.s,setO (killO r st.o) r (.row e (std.part d 0 l) true)⟩)
 {Q:Exit→Act→World→Prop}:o.wp P a w (Post tt B keep E Pp st.o w o a K) Q:=by
 have hlE:r<E.length:=by rw [h.wr.len];exact lt_of_get hob
 have hu:=((htt _ _ hti).slice he).1
 have hs2:=(htt _ _ hei).run (P:=P) w
 have hcks:cksOf tt e=ei.cks:=by simp [cksOf,hei]
 have hbd:∀ len cap:Nat,(rowsD d).length=len→len≤cap→(Instr.sliceBounds true len cap none (some (a.eval y)) none).run P w= .ok (0,l.toNat,cap) w:=by
  intro len cap hlen hcap
  simp only [Instr.sliceBounds,Sem.run_bind,Sem.run_pure,Result.andThen_ok]
  simp [e1,sliceBound_ok (P:=P) (w:=w) (k:=k1) (n:=l) (y:=cap) ⟨hl0,by omega⟩]
 obtain ⟨ri,hri,hor⟩:=h.wr.ob r _ hob rfl
 generalize hx:a.eval x=vx at hv
 cases hv with
 |row0 _ _ hE=>
  rw [hri] at hE;cases hE
  simp only [OR] at hor
  subst hor
  simp [rowsD] at hne
 |row _ _ g o0 len cap hE=>
  rw [hri] at hE;cases hE
  obtain ⟨vs,T,rows,hg,hd0,hlen,hcap,hfit,hrow,hnp,hfz⟩:=hor
  subst hd0
  generalize hS:(cksOf tt e).length=S at*
  obtain ⟨k,rfl⟩:∃ k:Nat,l=k:=⟨l.toNat,by omega⟩
  simp only [rowsD] at hl1 hbd hne
  have hk:k≤len:=by omega
  have hrun:(execOp a.eval o).run P w= .ok (.value (.slice (some (⟨g,o0,none⟩:Addr)) k cap)) w:=by
   rw [hcks] at hS
   simp [execOp,hop,hx,Instr.sliceAt,run_underlying hu,Instr.slice,hbd len cap hlen hcap,hs2.2.1,hS,add_none]
  have hpart:std.part (.list rows) 0 (k:Int)= .list (rows.take k):=by
   show D.list ((rows.drop (0:Int).toNat).take ((k:Int).toNat-(0:Int).toNat))=_
   simp
  rw [hpart] at hK
  have hkS:k*S≤len*S:=Nat.mul_le_mul_right _ hk
  have hS2:=h.rowTurn (d':=.list (rows.take k)) (ri':=.row g o0 k cap) (w':=w) hob hri hr0 (by
   refine ⟨vs,T,rows.take k,hg,rfl,by simp;omega,by omega,by rw [hS];exact hfit,?_,hnp,by simp⟩
   intro i row hi
   have hlt:=lt_of_get hi
   simp at hlt
   rw [List.getElem?_take_of_lt (by omega)] at hi
   exact hrow i row hi) (fun b n c hc=>by cases hc) rfl rfl rfl (Nat.le_refl _) (fun b _ _=>rfl) (fun _ _ h=>h) (fun _ _ h=>.inl h) (fun b hb=>.inl hb) h.wr.pi
  refine wp_val hrun ?_
  rw [setO_eq] at hK
  refine Post.mk (.row _ _ _ _ _ _ (by rw [List.getElem?_set_self hlE])) (kill_slots hs (fun _ _ h=>h)) hS2 hK (fun hq2=> ?_) (fun _ _ h=>h)
  rw [hop] at hq2
  simp only [quietOp] at hq2
  rw [hq] at hq2;cases hq2
theorem rowView_ok (htt:TtOk P tt) (h:SimW tt B E Pp st.o w) (hs:∀ t,VR tt E Pp (a.tmps.getD t undef) (look st.s t)) {o:Oper} {t e:TypeId} {x y:Operand}
 (hop:o.op= .slice t x (some y) none none) {ti ei:TI} (hti:tt t=some ti) (he:sliceEl ti=some e) (hei:tt e=some ei) {r:Nat} {d:D} {wr:Bool} (hob:st.o[r]? =some (.row e d wr))
 (hv:VR tt E Pp (a.eval x) (.row e r)) (hne:0<((rowsD d).length:Int)) {l:Int} (hl0:0≤l) (hl1:l≤((rowsD d).length:Int)) {k1:IntKind} (e1:a.eval y= .int k1 l)
 {K:PV→St→Prop} (hK:K (.rptr e r l slcM) st)
 {Q:Exit→Act→World→Prop}:o.wp P a w (Post tt B keep E Pp st.o w o a K) Q:=by
 have hu:=((htt _ _ hti).slice he).1
 have hs2:=(htt _ _ hei).run (P:=P) w
 have hcks:cksOf tt e=ei.cks:=by simp [cksOf,hei]
 have hbd:∀ len cap:Nat,(rowsD d).length=len→len≤cap→(Instr.sliceBounds true len cap (some (a.eval y)) none none).run P w= .ok (l.toNat,len,cap) w:=by
  intro len cap hlen hcap
  simp only [Instr.sliceBounds,Sem.run_bind,Sem.run_pure,Result.andThen_ok]
  simp [e1,sliceBound_ok (P:=P) (w:=w) (k:=k1) (n:=l) (y:=len) ⟨hl0,by omega⟩]
 obtain ⟨ri,hri,hor⟩:=h.wr.ob r _ hob rfl
 generalize hx:a.eval x=vx at hv
 cases hv with
 |row0 _ _ hE=>
  rw [hri] at hE;cases hE
  simp only [OR] at hor
  subst hor
  simp [rowsD] at hne
 |row _ _ g o0 len cap hE=>
  rw [hri] at hE;cases hE
  obtain ⟨vs,T,rows,hg,hd0,hlen,hcap,hfit,hrow,hnp,hfz⟩:=hor
  subst hd0
  generalize hS:(cksOf tt e).length=S at*
  obtain ⟨k,rfl⟩:∃ k:Nat,l=k:=⟨l.toNat,by omega⟩
  simp only [rowsD] at hl1 hbd
  have hk:k≤len:=by omega
  have hrun:(execOp a.eval o).run P w= .ok (.value (.slice (some (if cap=k then (⟨g,o0,none⟩:Addr) else ⟨g,o0+k*S,none⟩)) (len-k) (cap-k))) w:=by
   have:(if cap=k then some (⟨g,o0,none⟩:Addr) else some ⟨g,o0+k*S,none⟩)=some (if cap=k then (⟨g,o0,none⟩:Addr) else ⟨g,o0+k*S,none⟩):=by split<;>rfl
   rw [← this]
   rw [hcks] at hS
   simp [execOp,hop,hx,Instr.sliceAt,run_underlying hu,Instr.slice,hbd len cap hlen hcap,hs2.2.1,hS,add_none]
  refine wp_val hrun ?_
  refine Post.mk (.rptr _ _ _ _ _ g o0 len cap hri hl0 ⟨fun hn=>absurd rfl hn,fun _=>⟨⟨if cap=k then o0 else o0+k*S,?_,?_⟩,by omega⟩⟩) hs h hK (fun _ ad v h=>h) (fun _ _ h=>h)
  ·simp only [Int.toNat_natCast];split<;>rfl
  ·simp only [Int.toNat_natCast,hS]
   split
   ·right;omega
   ·left;rfl
theorem append_row_ok (htt:TtOk P tt) (h:SimW tt B E Pp st.o w) (hs:∀ t,VR tt E Pp (a.tmps.getD t undef) (look st.s t)) {o:Oper} {x y:Operand} {t1 t2 e:TypeId} {as:Array Operand} {ts:Array TypeId}
 (hop:o.op= .call { callee:=.builtin .append,args:=as,argTypes:=ts }) (has:as.toList=[x,y]) (hts:ts.toList=[t1,t2])
 {i1 i2 ei:TI} (h1:tt t1=some i1) (h2:tt t2=some i2) (he1:sliceEl i1=some e) (he2:P.underlying t2=some (.slice e)∨P.underlying t2=some .string) (hei:tt e=some ei) (hb:ei.bytes≤1024)
 {rows:List (List D)} {news:List Value} (hR:Reads tt Pp w e (a.eval y) rows news) {r:Nat} (hx:VR tt E Pp (a.eval x) (.row e r)) {d:D} {wr:Bool} (hob:getO st.o r= .row e d wr) (hr0:B.E0.length≤r)
 (hlen:std.len d+rows.length≤4294967296) {K:PV→St→Prop} (hK:K (.row e r) ⟨killS r st.s,setO (killO r st.o) r (.row e (std.app d (.list rows)) wr)⟩)
 {Q:Exit→Act→World→Prop}:o.wp P a w (Post tt B keep E Pp st.o w o a K) Q:=by
 have ho':=getO_live hob rfl
 have hlr:=lt_of_get ho'
 obtain ⟨ri,hri,hor⟩:=h.wr.ob r _ ho' rfl
 generalize hgx:a.eval x=vx at hx
 cases hx with
 |row0 _ _ hE=>
  rw [hE] at hri;cases hri
  have:d= .list []:=hor
  subst this
  by_cases h0:rows=[]
  ·subst h0
   have hop':= @resolve_append P w a o x y t1 t2 as ts hop has hts
   rw [hgx] at hop'
   have hrun:=append_nilroom (ty:=o.type) (n:=0) (cap:=0) (base:=none) h1 h2 he1 he2 hei htt hR (Nat.le_refl _)
   refine wp_val (hop' hrun) ?_
   rw [setO_eq] at hK
   have hEs:E.set r .row0=E:=by
    apply List.ext_getElem?
    intro i
    by_cases hi:i=r
    ·subst hi;rw [List.getElem?_set_self (by rw [h.wr.len];exact hlr),hE]
    ·rw [List.getElem?_set_ne (Ne.symm hi)]
   have hS:=h.rowTurn (d':=std.app (.list []) (.list [])) (ri':=.row0) (w':=w) (Pp':=Pp) ho' hE hr0 rfl (fun b n c hc=>by cases hc) rfl rfl rfl (Nat.le_refl _) (fun _ _ _=>rfl) (fun _ _ h=>h) (fun _ _ h=>.inl h) (fun b hb=>by simp [RI.block?] at hb) h.wr.pi
   refine Post.mk (.row0 _ _ (by rw [hEs];exact hE)) (kill_slots hs (fun _ _ h=>h)) hS hK ?_
   intro _ ad v hv
   refine hv.killed hlr (fun _ _ h=>h) (fun i x hi hx=>by rw [List.getElem?_set_ne (Ne.symm hi)];exact hx) (fun i _ hc _=>hc) ?_
   intro hc ho
   rcases ho with ⟨cs,h3,_⟩|⟨e',d',wr',o',len',cap',h3,h4,h5⟩
   ·rw [ho'] at h3;cases h3
   ·rw [hE] at h4;cases h4
  ·have hpos:0<rows.length:=List.length_pos_iff.2 h0
   exact row_grow_ok (olds:=[]) (oldc:=[]) (base:=none) (cap:=0) htt h hs hop has hts h1 h2 he1 he2 hei hb hR ⟨by simp,.inl ⟨none,hgx,rfl⟩,fun k row h=>by simp at h⟩ hgx (Nat.le_refl _) (by simpa using hpos) (by simp [rowsD] at hlen ⊢;omega) ho' hE hr0 (.inl rfl) (by simpa [rowsD] using hK)
 |row _ _ g o0 len cap hE=>
  rw [hE] at hri;cases hri
  obtain ⟨vs,T,olds,hg,rfl,hl,hcap,hsz,hrow,hnp,hfz⟩:=hor
  subst hl
  have hK':K (.row e r) ⟨killS r st.s,setO (killO r st.o) r (.row e (.list (olds++rows)) wr)⟩:=by simpa [rowsD] using hK
  by_cases hroom:olds.length+rows.length≤cap
  ·exact row_room_ok htt h hs hop has hts h1 h2 he1 he2 hei hR hgx hroom ho' hE hr0 hK'
  ·have hle:olds.length*(cksOf tt e).length≤cap*(cksOf tt e).length:=Nat.mul_le_mul_right _ hcap
   obtain ⟨e1,e2⟩:=hrow.reads rfl (by omega)
   refine row_grow_ok htt h hs hop has hts h1 h2 he1 he2 hei hb hR ⟨e1,.inr (.inl ⟨g,o0,cap,hgx,hcap,?_⟩),e2⟩ hgx hcap (by omega) (by simp [rowsD] at hlen;omega) ho' hE hr0 (.inr ⟨g,o0,cap,rfl⟩) hK'
   intro j u hj
   have hlt:=lt_of_get hj
   rw [e1] at hlt
   rw [List.getElem?_take_of_lt hlt,List.getElem?_drop] at hj
   rw [cell_of_block hg];exact hj
end
end Go.VC
end

section
namespace Go.VC
open Go
section
variable {P:Program} {tt:TypeId→Option TI} {N:Nat} {B:Base} {E:List RI} {Pp:Per} {objs:List Ob} {w:World} {st:St} {a:Act} {keep:List FuncId×List FuncId}
def keyDesc:CK→TypeDesc
 | .int k=>.int k
 | .str=>.string
 |_=>.bool
theorem key_desc {kt:TypeId} {ki:TI} {kc:CK} (h:TiOk P kt ki) (ha:ki.agg=false) (hc:ki.cks=[kc]) (hs:scalarCk kc=true):P.underlying kt=some (keyDesc kc):=by
 obtain ⟨i,z,d,hi,_,hb,hz,hzc,_,hd,hm⟩:=h.info
 cases kc<;>simp [scalarCk] at hs<;>cases d<;>simp_all [keyDesc]
theorem ba_eq (a b:ByteArray):(a==b)=(a.data.toList==b.data.toList):=(Array.beq_toList a.data b.data).symm
theorem sameNow_ok {kc:CK} (hs:scalarCk kc=true) {u v:Value} {d d':D} (hu:RD tt Pp kc u d) (hv:RD tt Pp kc v d'):Instr.sameNow (keyDesc kc) u v=some (keyEq d d'):=by
 cases hu<;>cases hv<;>simp_all [scalarCk,keyDesc,Instr.sameNow,keyEq,ba_eq]
theorem sameBits_ok {kc:CK} (hs:scalarCk kc=true) {u v:Value} {d d':D} (hu:RD tt Pp kc u d) (hv:RD tt Pp kc v d') (h:keyEq d d'=true) (n:Nat):Instr.sameBits n v u=true:=by
 cases hu<;>cases hv<;>simp_all [scalarCk,Instr.sameBits,keyEq,ba_eq]
theorem kd_scalar {kc:CK} (hs:scalarCk kc=true) {v:Value} {d:D} (h:KD tt Pp kc v d):RD tt Pp kc v d:=by
 rcases h with h|⟨rfl,_⟩
 ·exact h.2
 ·simp [scalarCk] at hs
def Entries (tt:TypeId→Option TI) (Pp:Per) (kc:CK) (e:TypeId) (es:List MapEntry) (rows:List (List D)):Prop:=
 es.length=rows.length∧∀ (i:Nat) (x:MapEntry) (row:List D),es[i]? =some x→rows[i]? =some row→EntryAt tt Pp kc e x row
theorem Entries.tail {kc:CK} {e:TypeId} {x:MapEntry} {es:List MapEntry} {row:List D} {rows:List (List D)} (h:Entries tt Pp kc e (x::es) (row::rows)):EntryAt tt Pp kc e x row∧Entries tt Pp kc e es rows:=
 ⟨h.2 0 x row rfl rfl,by simpa using h.1,fun i y r h1 h2=>h.2 (i+1) y r (by simpa using h1) (by simpa using h2)⟩
theorem findNow_ok {kc:CK} (hs:scalarCk kc=true) {e:TypeId} {k:Value} {kd:D} (hk:RD tt Pp kc k kd):∀ (es:List MapEntry) (rows:List (List D)) (n:Nat),Entries tt Pp kc e es rows→
 (∃ i x row,es[i]? =some x∧rows[i]? =some row∧hasKey kd row=true∧rows.any (hasKey kd)=true∧rows.find? (hasKey kd)=some row∧(∀ vs,setKey kd vs rows=rows.set i (kd::vs))∧rows.eraseP (hasKey kd)=rows.eraseIdx i∧Instr.findNow (keyDesc kc) k es n=some (some (n+i,x.val)))∨
 (rows.any (hasKey kd)=false∧(∀ vs,setKey kd vs rows=rows++[kd::vs])∧rows.eraseP (hasKey kd)=rows∧Instr.findNow (keyDesc kc) k es n=some none)
 |[],rows,n,h=>by
  have:=h.1
  have:rows=[]:=List.eq_nil_of_length_eq_zero (by simpa using this.symm)
  subst this
  exact .inr ⟨rfl,fun _=>rfl,rfl,rfl⟩
 |x::es,[],n,h=>by have:=h.1;simp at this
 |x::es,row::rows,n,h=>by
  obtain ⟨⟨kd',vd,rfl,hr,_⟩,ht⟩:=h.tail
  have hsn:=sameNow_ok hs hk (kd_scalar hs hr)
  have hkk:hasKey kd (kd'::vd)=keyEq kd kd':=rfl
  cases hq:keyEq kd kd' with
  |true=>
   refine .inl ⟨0,x,kd'::vd,rfl,rfl,by rw [hkk,hq],by simp [hkk,hq],by simp [hkk,hq],fun vs=>by simp [setKey,hkk,hq],by simp [hkk,hq],?_⟩
   simp [Instr.findNow,hsn,hq]
  |false=>
   rcases findNow_ok hs hk es rows (n+1) ht with ⟨i,y,r,h1,h2,h3,h4,h5,h6,h8,h7⟩|⟨h1,h2,h8,h3⟩
   ·refine .inl ⟨i+1,y,r,by simpa using h1,by simpa using h2,h3,by simp [h4],by simp [hkk,hq,h5],fun vs=>by simp [setKey,hkk,hq,h6],by simp [hkk,hq,h8],?_⟩
    simp only [Instr.findNow,hsn,hq]
    rw [h7,show n+1+i=n+(i+1) by omega]
   ·exact .inr ⟨by simp [hkk,hq,h1],fun vs=>by simp [setKey,hkk,hq,h2],by simp [hkk,hq,h8],by simp [Instr.findNow,hsn,hq,h3]⟩
theorem checkKey_ok {kt:TypeId} {kc:CK} (hs:scalarCk kc=true) (hu:P.underlying kt=some (keyDesc kc)) {k:Value} {kd:D} (hk:RD tt Pp kc k kd) (b:Bool):(Instr.checkKey b 10000 kt k).run P w= .ok () w:=by
 have he:∀ n,(Instr.checkKey b (n+1) kt k).run P w= .ok () w:=by
  intro n
  cases hk<;>simp [scalarCk] at hs<;>simp [Instr.checkKey,run_underlying hu,keyDesc]
 exact he 9999
theorem findKey_ok {kt:TypeId} {kc:CK} (hu:P.underlying kt=some (keyDesc kc)) {k:Value} {es:List MapEntry} {r:Option (Nat×Value)} (h:Instr.findNow (keyDesc kc) k es 0=some r):(Instr.findKey kt k es).run P w= .ok r w:=by
 simp [Instr.findKey,run_underlying hu,h]
structure KeyOk (P:Program) (tt:TypeId→Option TI) (kt:TypeId) (kc:CK):Prop where
 find:∀ {Pp:Per} {e:TypeId} {k:Value} {kd:D} (w:World),KD tt Pp kc k kd→∀ (es:List MapEntry) (rows:List (List D)),Entries tt Pp kc e es rows→
  (∃ i x row,es[i]? =some x∧rows[i]? =some row∧hasKey kd row=true∧rows.any (hasKey kd)=true∧rows.find? (hasKey kd)=some row∧(∀ vs,setKey kd vs rows=rows.set i (kd::vs))∧rows.eraseP (hasKey kd)=rows.eraseIdx i∧(Instr.findKey kt k es).run P w= .ok (some (i,x.val)) w)∨
  (rows.any (hasKey kd)=false∧(∀ vs,setKey kd vs rows=rows++[kd::vs])∧rows.eraseP (hasKey kd)=rows∧(Instr.findKey kt k es).run P w= .ok none w)
 check:∀ {Pp:Per} {k:Value} {kd:D} (w:World),KD tt Pp kc k kd→∀ b,(Instr.checkKey b 10000 kt k).run P w= .ok () w
 bits:∀ {Pp:Per} {u v:Value} {d d':D},KD tt Pp kc u d→KD tt Pp kc v d'→keyEq d d'=true→Instr.sameBits 10000 v u=true
theorem findAsking_ok {kt:TypeId} {kc:CK} {e:TypeId} {k:Value} {kd:D} (heq:∀ (v:Value) (d:D),KD tt Pp kc v d→(Op.equal kt k v).run P w= .ok (keyEq kd d) w):∀ (es:List MapEntry) (rows:List (List D)) (n:Nat),Entries tt Pp kc e es rows→
 (∃ i x row,es[i]? =some x∧rows[i]? =some row∧hasKey kd row=true∧rows.any (hasKey kd)=true∧rows.find? (hasKey kd)=some row∧(∀ vs,setKey kd vs rows=rows.set i (kd::vs))∧rows.eraseP (hasKey kd)=rows.eraseIdx i∧(Instr.findAsking kt k es n).run P w= .ok (some (n+i,x.val)) w)∨
 (rows.any (hasKey kd)=false∧(∀ vs,setKey kd vs rows=rows++[kd::vs])∧rows.eraseP (hasKey kd)=rows∧(Instr.findAsking kt k es n).run P w= .ok none w)
 |[],rows,n,h=>by
  have:=h.1
  have:rows=[]:=List.eq_nil_of_length_eq_zero (by simpa using this.symm)
  subst this
  exact .inr ⟨rfl,fun _=>rfl,rfl,by simp [Instr.findAsking]⟩
 |x::es,[],n,h=>by have:=h.1;simp at this
 |x::es,row::rows,n,h=>by
  obtain ⟨⟨kd',vd,rfl,hr,_⟩,ht⟩:=h.tail
  have hsn:=heq _ _ hr
  have hkk:hasKey kd (kd'::vd)=keyEq kd kd':=rfl
  cases hq:keyEq kd kd' with
  |true=>
   rw [hq] at hsn
   refine .inl ⟨0,x,kd'::vd,rfl,rfl,by rw [hkk,hq],by simp [hkk,hq],by simp [hkk,hq],fun vs=>by simp [setKey,hkk,hq],by simp [hkk,hq],?_⟩
   simp [Instr.findAsking,hsn]
  |false=>
   rw [hq] at hsn
   rcases findAsking_ok heq es rows (n+1) ht with ⟨i,y,r,h1,h2,h3,h4,h5,h6,h8,h7⟩|⟨h1,h2,h8,h3⟩
   ·refine .inl ⟨i+1,y,r,by simpa using h1,by simpa using h2,h3,by simp [h4],by simp [hkk,hq,h5],fun vs=>by simp [setKey,hkk,hq,h6],by simp [hkk,hq,h8],?_⟩
    simp only [Instr.findAsking,Sem.run_bind,hsn,Result.andThen_ok,Bool.false_eq_true,if_false]
    rw [h7,show n+1+i=n+(i+1) by omega]
   ·exact .inr ⟨by simp [hkk,hq,h1],fun vs=>by simp [setKey,hkk,hq,h2],by simp [hkk,hq,h8],by simp [Instr.findAsking,hsn,h3]⟩
theorem keyOk_of {kt:TypeId} {ki:TI} {kc:CK} (h:TiOk P kt ki) (hk:keyOf ki=some kc):KeyOk P tt kt kc:=by
 unfold keyOf at hk
 split at hk
 ·rename_i c ha hc
  cases hs:scalarCk c with
  |false=>rw [hs] at hk;cases hk
  |true=>
   rw [hs] at hk
   simp at hk;subst hk
   have hu:=key_desc h ha hc hs
   refine ⟨fun {Pp e k kd} w hkd es rows he=> ?_,fun {Pp k kd} w hkd b=>checkKey_ok hs hu (kd_scalar hs hkd) b,fun {Pp u v d d'} h1 h2 h3=>sameBits_ok hs (kd_scalar hs h1) (kd_scalar hs h2) h3 10000⟩
   rcases findNow_ok hs (kd_scalar hs hkd) es rows 0 he with ⟨i,x,row,h1,h2,h3,h4,h5,h6,h8,h7⟩|⟨h1,h2,h8,h3⟩
   ·rw [Nat.zero_add] at h7
    exact .inl ⟨i,x,row,h1,h2,h3,h4,h5,h6,h8,findKey_ok hu h7⟩
   ·exact .inr ⟨h1,h2,h8,findKey_ok hu h3⟩
 ·rename_i ha hc
  cases hs:ki.eqOk with
  |false=>rw [hs] at hk;cases hk
  |true=>
   rw [hs] at hk
   simp at hk;subst hk
   obtain ⟨_,_,⟨fs,hu⟩,hlaw⟩:=h.eqs hs
   rw [hc] at hlaw
   have sc:∀ (a b:ByteArray),∀ (j:Nat) c u,[CK.str,CK.str][j]? =some c→[Value.string a,Value.string b][j]? =some u→isScalar c u:=by
    intro a b j c u h1 h2
    match j with
    |0=>simp at h1 h2;subst h1 h2;exact ⟨_,rfl⟩
    |1=>simp at h1 h2;subst h1 h2;exact ⟨_,rfl⟩
    |j+2=>simp at h1
   have str2:∀ {Pp:Per} {v:Value} {d:D},KD tt Pp .str2 v d→∃ a b:ByteArray,v= .agg ⟨[.string a,.string b]⟩∧d= .ptr [.str a.data.toList,.str b.data.toList]:=by
    intro Pp v d h
    rcases h with h|h
    ·exact absurd rfl h.1
    ·exact h.2
   have eqs:∀ (a b c d:ByteArray),sEqs [.string a,.string b] [.string c,.string d]=keyEq (.ptr [.str a.data.toList,.str b.data.toList]) (.ptr [.str c.data.toList,.str d.data.toList]):=by
    intro a b c d
    simp only [sEqs,sEq,keyEq]
    cases a.data.toList==c.data.toList<;>cases b.data.toList==d.data.toList<;>rfl
   refine ⟨fun {Pp e k kd} w hkd es rows he=> ?_,fun {Pp k kd} w hkd b=> ?_,fun {Pp u v d d'} h1 h2 h3=> ?_⟩
   ·obtain ⟨a,b,rfl,rfl⟩:=str2 hkd
    have hfk:(Instr.findKey kt (.agg ⟨[.string a,.string b]⟩) es).run P w=(Instr.findAsking kt (.agg ⟨[.string a,.string b]⟩) es).run P w:=by
     cases es with
     |nil=>simp [Instr.findKey,run_underlying hu,Instr.findNow,Instr.findAsking]
     |cons x es=>simp [Instr.findKey,run_underlying hu,Instr.findNow,Instr.sameNow]
    rw [hfk]
    have:=findAsking_ok (P:=P) (w:=w) (kt:=kt) (k:=.agg ⟨[.string a,.string b]⟩) (kd:=.ptr [.str a.data.toList,.str b.data.toList]) (fun v d hv=>by
     obtain ⟨c,d',rfl,rfl⟩:=str2 hv
     rw [(hlaw _ _ w rfl rfl (sc a b) (sc c d')).1,eqs]) es rows 0 he
    simpa only [Nat.zero_add] using this
   ·obtain ⟨a,b',rfl,rfl⟩:=str2 hkd
    exact (hlaw _ _ w rfl rfl (sc a b') (sc a b')).2 b
   ·obtain ⟨a,b,rfl,rfl⟩:=str2 h1
    obtain ⟨c,d',rfl,rfl⟩:=str2 h2
    simp only [keyEq,Bool.and_eq_true,beq_iff_eq] at h3
    have e1:a=c:=by cases a;cases c;congr 1;exact Array.toList_inj.1 h3.1
    have e2:b=d':=by cases b;cases d';congr 1;exact Array.toList_inj.1 h3.2
    subst e1 e2
    simp [Instr.sameBits,ba_eq]
 ·cases hk
theorem fit_kd {c:CK} {v:Value} {p:PV} (h:keyFits c p=true) (hv:VR tt E Pp v p):KD tt Pp c v (keyD p):=by
 unfold keyFits at h
 split at h
 ·split at h
  ·rename_i a b
   cases hv with
   |agg vs _ hl=>
    cases hl with
    |cons _ _ _ _ h1 h2=>cases h2 with|cons _ _ _ _ h3 h4=>cases h4;cases h1;cases h3;exact .inr ⟨rfl,_,_,rfl,rfl⟩
  ·cases h
 ·rename_i hn
  have hp:keyD p=toD' p:=by
   unfold keyD
   split
   ·rename_i a b;cases c<;>simp [ckFits] at h
   ·rfl
  rw [hp]
  exact .inl ⟨hn,fit_rd h hv⟩
theorem makeMap_ok (h:SimW tt B E Pp st.o w) (hs:∀ t,VR tt E Pp (a.tmps.getD t undef) (look st.s t)) {o:Oper} {t e:TypeId} {rv:Option Operand} (hop:o.op= .makeMap t rv) (hrv:rv=none) {kc:CK}
 {K:PV→St→Prop} (hK:K (.mp (lenL st.o)) ⟨st.s,appL st.o [.map kc e (.list [])]⟩) {Q:Exit→Act→World→Prop}:o.wp P a w (Post tt B keep E Pp st.o w o a K) Q:=by
 subst hrv
 rw [appL_eq,lenL_eq] at hK
 refine wp_val (v:=.map (some w.heap.size)) (w':=w.alloc (.map #[] 0)) ?_ ?_
 ·simp [execOp,hop,Instr.makeMap]
 ·refine Post.mk (E':=E++[.map w.heap.size [] 0]) (Pp':=Pp) (.mp _ _ [] 0 (by rw [← h.wr.len];simp)) (slots_push hs) ?_ hK (fun _ ad v hv=>hv.grow h.wr.len (fun _ _ h=>h) (fun k hk=>RowKit.Below.heap_alloc w _ k hk))
  exact h.new rfl ⟨#[],[],heap_alloc_at w _,rfl,rfl,fun i x row hx=>by simp at hx,rfl,List.nodup_nil,fun x hx=>by simp at hx,nopi_new h.wr⟩
theorem val_ok (htt:TtOk P tt) {e:TypeId} {ei:TI} (hei:tt e=some ei) {x:Value} {vd:List D} {g:Nat→D} {off:Nat} (hl:vd.length=(cksOf tt e).length) (hxl:x.cells.toList.length=vd.length)
 (hrd:∀ (j:Nat) (d:D) (ck:CK) (v:Value),vd[j]? =some d→(cksOf tt e)[j]? =some ck→x.cells.toList[j]? =some v→RD tt Pp ck v d)
 (hv:∀ ti,tt e=some ti→(ti.agg=true→∃ cs,x= .agg cs)∧(ti.agg=false→x.cells= #[x])) (hg:∀ j d,vd[j]? =some d→g (off+j)=d):VR tt E Pp x (aggOf ei (gcells std g off ei.cks)):=by
 have hcks:cksOf tt e=ei.cks:=by simp [cksOf,hei]
 rw [hcks] at hl hrd
 have hc:=gcells_ok (tt:=tt) (E:=E) (Pp:=Pp) (g:=g) (off:=off) (cs:=ei.cks) (vs:=x.cells.toList) (by omega) (by
  intro j c v hc hv
  have hj:=lt_of_get hc
  have hd:vd[j]? =some (vd[j]'(by omega)):=List.getElem?_eq_getElem (by omega)
  rw [hg j _ hd]
  exact hrd j _ c v hd hc hv)
 have hvo:=valOf_ok (htt _ _ hei) (gcells_length std g off ei.cks) hc
 have:valOf ei x.cells.toList=x:=by
  obtain ⟨h1,h2⟩:=hv ei hei
  unfold valOf
  cases ha:ei.agg with
  |true=>obtain ⟨cs,rfl⟩:=h1 ha;rfl
  |false=>rw [h2 ha];rfl
 rwa [this] at hvo
theorem lookup_ok (htt:TtOk P tt) (h:SimW tt B E Pp st.o w) (hs:∀ t,VR tt E Pp (a.tmps.getD t undef) (look st.s t)) {o:Oper} {t:TypeId} {m k:Operand} {ok:Bool} (hop:o.op= .lookup t m k ok) {ti ki ei:TI} (hti:tt t=some ti) (hm:isMap ti=true)
 (hki:tt (ti.ar-1)=some ki) (hei:tt ti.el=some ei) {kc:CK} (hkc:keyOf ki=some kc) (hfit:keyFits kc (evT tt st.s (ti.ar-1) k)=true) {r:Nat} (hx:ev st.s m= .mp r) {d:D} (hob:getO st.o r= .map kc ti.el d)
 {K:PV→St→Prop} (hK1:std.mhas d (keyD (evT tt st.s (ti.ar-1) k))=true→K (okTup ok (aggOf ei (mcellsPV std d (keyD (evT tt st.s (ti.ar-1) k)) 0 ei.cks)) true) st)
 {p0:PV} (hp0:std.mhas d (keyD (evT tt st.s (ti.ar-1) k))=false→∀ {E:List RI} {Pp:Per} {v:Value},VR tt E Pp v (aggOf ei (ei.cks.map zeroPV))→VR tt E Pp v p0) (hK2:std.mhas d (keyD (evT tt st.s (ti.ar-1) k))=false→K (okTup ok p0 false) st) {Q:Exit→Act→World→Prop}:o.wp P a w (Post tt B keep E Pp st.o w o a K) Q:=by
 obtain ⟨kt,e,hu,_,hel,har⟩:=(htt _ _ hti).map hm
 subst hel
 have hkt:ti.ar-1=kt:=by omega
 simp only [hkt] at*
 have hko:=keyOk_of (tt:=tt) (htt _ _ hki) hkc
 have hkr:=fit_kd hfit (evT_ok hs kt k)
 generalize hkd:keyD (evT tt st.s kt k)=kd at*
 have hmv:=ev_ok hs m
 rw [hx] at hmv
 have ho':=getO_live hob rfl
 obtain ⟨ri,hri,hor⟩:=h.wr.ob r _ ho' rfl
 generalize hgm:a.eval m=vm at hmv
 cases hmv with
 |mp _ b bs cl hE=>
  rw [hE] at hri;cases hri
  obtain ⟨es,rows,hb,rfl,hl,hent,hborn,hnd,hlt,hno⟩:=hor
  have hck:=hko.check w hkr es.isEmpty
  rcases hko.find w hkr es.toList rows ⟨hl,hent⟩ with ⟨i,x,row,h1,h2,h3,h4,h5,_,_,hfk⟩|⟨h1,_,_,hfk⟩
  ·obtain ⟨kd',vd,rfl,e2,e3,e4,e5,e6⟩:=hent i x row h1 h2
   have hval:VR tt E Pp x.val (aggOf ei (mcellsPV std (.list rows) kd 0 ei.cks)):=by
    refine val_ok htt hei e3 e4 e5 e6 ?_
    intro j dd hj
    simp [std,rowsD,h5,List.getD,hj]
   refine wp_val (v:=if ok then .tuple #[x.val,.bool true] else x.val) (w':=w) ?_ ?_
   ·simp only [execOp,hop,hgm,Instr.lookup,run_underlying hu,Sem.run_bind,Result.andThen_ok,getObj,Sem.run,hb,Sem.run_pure,hck,hfk]
   ·refine Post.mk (s':=st.s) (o':=st.o) (pv:=okTup ok (aggOf ei (mcellsPV std (.list rows) kd 0 ei.cks)) true) ?_ hs h (hK1 (by simpa [std,rowsD] using h4)) (fun _ ad v hv=>hv)
    cases ok with
    |true=>exact .tup _ _ (.cons _ _ _ _ hval (.cons _ _ _ _ (.bl _) .nil))
    |false=>exact hval
  ·obtain ⟨_,_,⟨z,hz,hzc⟩,_⟩:=(htt _ _ hei).run w
   obtain ⟨i0,z0,d0,hi0,_,_,hz0,hzc0,hag,_⟩:=(htt _ _ hei).info
   have hzz:z=z0:=by
    have:(zeroValue ti.el).run P w= .ok z0 w:=by simp [zeroValue,typeInfo,hi0,hz0]
    rw [hz] at this;cases this;rfl
   subst hzz
   have hval:VR tt E Pp z (aggOf ei (ei.cks.map zeroPV)):=by
    have hvo:=valOf_ok (tt:=tt) (htt _ _ hei) (E:=E) (Pp:=Pp) (by simp) (zeros_ok ei.cks)
    have:valOf ei (ei.cks.map zeroV)=z:=by
     unfold valOf
     cases ha:ei.agg with
     |true=>obtain ⟨cs,rfl⟩:=hag.1 ha;rw [← hzc];rfl
     |false=>
      rw [← hzc,hag.2 ha];rfl
    rwa [this] at hvo
   refine wp_val (v:=if ok then .tuple #[z,.bool false] else z) (w':=w) ?_ ?_
   ·simp only [execOp,hop,hgm,Instr.lookup,run_underlying hu,Sem.run_bind,Result.andThen_ok,getObj,Sem.run,hb,Sem.run_pure,hck,hfk,hz]
   ·refine Post.mk (s':=st.s) (o':=st.o) (pv:=okTup ok p0 false) ?_ hs h (hK2 (by simpa [std,rowsD] using h1)) (fun _ ad v hv=>hv)
    cases ok with
    |true=>exact .tup _ _ (.cons _ _ _ _ (hp0 (by simpa [std,rowsD] using h1) hval) (.cons _ _ _ _ (.bl _) .nil))
    |false=>exact hp0 (by simpa [std,rowsD] using h1) hval
theorem lookupD_ok (htt:TtOk P tt) (h:SimW tt B E Pp st.o w) (hs:∀ t,VR tt E Pp (a.tmps.getD t undef) (look st.s t)) {o:Oper} {t:TypeId} {m k:Operand} {ok:Bool} (hop:o.op= .lookup t m k ok) {ti ki ei:TI} (hti:tt t=some ti) (hm:isMap ti=true)
 (hki:tt (ti.ar-1)=some ki) (hei:tt ti.el=some ei) {kc:CK} (hkc:keyOf ki=some kc) (hfit:keyFits kc (evT tt st.s (ti.ar-1) k)=true) {d:D} (hx:ev st.s m= .dmp ti.el d) (hstr:kc= .str)
 {K:PV→St→Prop} (hK1:std.mhas d (keyD (evT tt st.s (ti.ar-1) k))=true→K (okTup ok (aggOf ei (mcellsPV std d (keyD (evT tt st.s (ti.ar-1) k)) 0 ei.cks)) true) st)
 {p0:PV} (hp0:std.mhas d (keyD (evT tt st.s (ti.ar-1) k))=false→∀ {E:List RI} {Pp:Per} {v:Value},VR tt E Pp v (aggOf ei (ei.cks.map zeroPV))→VR tt E Pp v p0) (hK2:std.mhas d (keyD (evT tt st.s (ti.ar-1) k))=false→K (okTup ok p0 false) st) {Q:Exit→Act→World→Prop}:o.wp P a w (Post tt B keep E Pp st.o w o a K) Q:=by
 obtain ⟨kt,e,hu,_,hel,har⟩:=(htt _ _ hti).map hm
 subst hel
 have hkt:ti.ar-1=kt:=by omega
 simp only [hkt] at*
 have hko:=keyOk_of (tt:=tt) (htt _ _ hki) hkc
 have hkr:=fit_kd hfit (evT_ok hs kt k)
 generalize hkd:keyD (evT tt st.s kt k)=kd at*
 have hmv:=ev_ok hs m
 rw [hx] at hmv
 generalize hgm:a.eval m=vm at hmv
 subst hstr
 have hmiss:∀ (hmh:std.mhas d kd=false) (hcode:∀ z,(zeroValue ti.el).run P w= .ok z w→(execOp a.eval o).run P w= .ok (.value (if ok then .tuple #[z,.bool false] else z)) w),o.wp P a w (Post tt B keep E Pp st.o w o a K) Q:=by
  intro hmh hcode
  obtain ⟨_,_,⟨z,hz,hzc⟩,_⟩:=(htt _ _ hei).run w
  obtain ⟨i0,z0,d0,hi0,_,_,hz0,hzc0,hag,_⟩:=(htt _ _ hei).info
  have hzz:z=z0:=by
   have:(zeroValue ti.el).run P w= .ok z0 w:=by simp [zeroValue,typeInfo,hi0,hz0]
   rw [hz] at this;cases this;rfl
  subst hzz
  have hval:VR tt E Pp z (aggOf ei (ei.cks.map zeroPV)):=by
   have hvo:=valOf_ok (tt:=tt) (htt _ _ hei) (E:=E) (Pp:=Pp) (by simp) (zeros_ok ei.cks)
   have:valOf ei (ei.cks.map zeroV)=z:=by
    unfold valOf
    cases ha:ei.agg with
    |true=>obtain ⟨cs,rfl⟩:=hag.1 ha;rw [← hzc];rfl
    |false=>
     rw [← hzc,hag.2 ha];rfl
   rwa [this] at hvo
  refine wp_val (v:=if ok then .tuple #[z,.bool false] else z) (w':=w) (hcode z hz) ?_
  refine Post.mk (s':=st.s) (o':=st.o) (pv:=okTup ok p0 false) ?_ hs h (hK2 hmh) (fun _ ad v hv=>hv)
  cases ok with
  |true=>exact .tup _ _ (.cons _ _ _ _ (hp0 hmh hval) (.cons _ _ _ _ (.bl _) .nil))
  |false=>exact hp0 hmh hval
 have hrd:∃ t',RD tt Pp (.map t' ti.el) vm d:=by
  cases hmv with
  |dmp t' _ _ _ hr=>exact ⟨t',hr⟩
 obtain ⟨t',hrd⟩:=hrd
 rcases hrd.map_inv with ⟨rfl,rfl⟩|⟨b,es,clock,rows,rfl,rfl,m⟩
 ·have hck:=hko.check w hkr true
  rcases hko.find (e:=0) w hkr [] [] ⟨rfl,fun i x row h1=>by simp at h1⟩ with ⟨i,x,row,h1,_⟩|⟨_,_,_,hfk⟩
  ·simp at h1
  ·refine hmiss (by simp [std,rowsD]) (fun z hz=> ?_)
   simp only [execOp,hop,hgm,Instr.lookup,run_underlying hu,Sem.run_bind,Result.andThen_ok,Sem.run,Sem.run_pure,show (#[]:Array MapEntry).isEmpty=true from rfl,hck,hfk,hz]
 ·have hb:=pc_map (h.wr.pi _ _ m.hpi)
  have hl:=m.len
  have hent:=m.ent
  have hck:=hko.check w hkr es.isEmpty
  rcases hko.find w hkr es.toList rows ⟨hl,hent⟩ with ⟨i,x,row,h1,h2,h3,h4,h5,_,_,hfk⟩|⟨h1,_,_,hfk⟩
  ·obtain ⟨kd',vd,rfl,e2,e3,e4,e5,e6⟩:=hent i x row h1 h2
   have hval:VR tt E Pp x.val (aggOf ei (mcellsPV std (.list rows) kd 0 ei.cks)):=by
    refine val_ok htt hei e3 e4 e5 e6 ?_
    intro j dd hj
    simp [std,rowsD,h5,List.getD,hj]
   refine wp_val (v:=if ok then .tuple #[x.val,.bool true] else x.val) (w':=w) ?_ ?_
   ·simp only [execOp,hop,hgm,Instr.lookup,run_underlying hu,Sem.run_bind,Result.andThen_ok,getObj,Sem.run,hb,Sem.run_pure,hck,hfk]
   ·refine Post.mk (s':=st.s) (o':=st.o) (pv:=okTup ok (aggOf ei (mcellsPV std (.list rows) kd 0 ei.cks)) true) ?_ hs h (hK1 (by simpa [std,rowsD] using h4)) (fun _ ad v hv=>hv)
    cases ok with
    |true=>exact .tup _ _ (.cons _ _ _ _ hval (.cons _ _ _ _ (.bl _) .nil))
    |false=>exact hval
  ·refine hmiss (by simpa [std,rowsD] using h1) (fun z hz=> ?_)
   simp only [execOp,hop,hgm,Instr.lookup,run_underlying hu,Sem.run_bind,Result.andThen_ok,getObj,Sem.run,hb,Sem.run_pure,hck,hfk,hz]
theorem endIt_get (m:Nat):∀ (l:List Ob) (i:Nat),(endIt m l)[i]? =(l[i]?).map fun o=>match o with| .iter m' s=>bif nb m' m then .dead else .iter m' s|o=>o
 |[],i=>by simp [endIt]
 |o::l,i=>by cases o<;>cases i<;>simp [endIt,endIt_get m l]
theorem endIt_length (m:Nat):∀ (l:List Ob),(endIt m l).length=l.length
 |[]=>rfl
 |o::l=>by cases o<;>simp [endIt,endIt_length m l]
theorem SimW.mapTurn0 {r b:Nat} {o o':Ob} {bs bs':List Nat} {cl cl':Nat} {es':Array MapEntry} (h:SimW tt B E Pp objs w) (ho:objs[r]? =some o) (hlv:o.live=true) (hno:NoPi Pp b) (hE:E[r]? =some (.map b bs cl))
 (hb:∃ es,w.heap[b]? =some (.map es cl)) (hor:OR tt (E.set r (.map b bs' cl')) Pp { w with heap:=w.heap.setIfInBounds b (.map es' cl') } (.map b bs' cl') o'):
 SimW tt B (E.set r (.map b bs' cl')) Pp ((endIt r objs).set r o') { w with heap:=w.heap.setIfInBounds b (.map es' cl') }:=by
 have hl:=h.wr.len
 have hr:=lt_of_get ho
 obtain ⟨es,hb⟩:=hb
 have hbl:b<w.heap.size:=by
  rcases Nat.lt_or_ge b w.heap.size with h'|h'
  ·exact h'
  ·simp [Array.getElem?_eq_none h'] at hb
 have hok:Eok E (E.set r (.map b bs' cl')):=by
  intro i x hx
  by_cases hi:i=r
  ·subst hi
   rw [hE] at hx;cases hx
   exact .inr ⟨b,bs,cl,bs',cl',rfl,by rw [List.getElem?_set_self (by omega)]⟩
  ·exact .inl (by rw [List.getElem?_set_ne (Ne.symm hi)];exact hx)
 refine h.turn ho hlv hE (by simp) (fun j hj=>List.getElem?_set_ne (Ne.symm hj)) (by rw [List.getElem?_set_self (by omega)]) (.inl hok) (by simp [endIt_length]) ?_ (by rw [List.getElem?_set_self (by rw [endIt_length];exact hr)]) (fun _=>hor) rfl rfl rfl (by simp) ?_ (fun _ _ h=>h) (fun _ _ h=>.inl h) (fun b' hb'=>.inl hb') ?_
 ·intro j oj' hj hoj hlv
  rw [List.getElem?_set_ne (Ne.symm hj),endIt_get] at hoj
  cases hx:objs[j]? with
  |none=>rw [hx] at hoj;simp at hoj
  |some oj=>
   rw [hx] at hoj
   simp only [Option.map_some,Option.some.injEq] at hoj
   cases oj with
   |box cs=>
    simp only at hoj;subst hoj
    refine ⟨_,rfl,rfl,fun rj hrj hor'=> ?_⟩
    cases rj<;>try exact hor'.elim
    ·obtain ⟨vs,T,h1,h2,h3⟩:=hor'
     exact ⟨vs,T,h1,(VR.mono_all hok (fun _ _ h=>h)).2 h2,h3⟩
    ·exact hor'.imp fun _ a=>⟨a.1,(VR.mono_all hok (fun _ _ h=>h)).2 a.2.1,a.2.2⟩
   |row=>simp only at hoj;subst hoj;exact ⟨_,rfl,rfl,fun rj hrj hor'=>by cases rj<;>exact hor'⟩
   |map=>simp only at hoj;subst hoj;exact ⟨_,rfl,rfl,fun rj hrj hor'=>by cases rj<;>exact hor'⟩
   |iter m s=>
    simp only at hoj
    cases hm:nb m r with
    |true=>rw [hm] at hoj;simp at hoj;subst hoj;simp [Ob.live] at hlv
    |false=>
     rw [hm] at hoj;simp at hoj;subst hoj
     refine ⟨_,rfl,rfl,fun rj hrj hor'=> ?_⟩
     cases rj<;>try exact hor'.elim
     obtain ⟨bm,borns,clock,ls,h1,h2⟩:=hor'
     refine ⟨bm,borns,clock,ls,?_,h2⟩
     rw [List.getElem?_set_ne]
     ·exact h1
     ·rintro rfl;rw [nb_refl] at hm;cases hm
   |loop n qs c1 c2 s jj=>
    simp only at hoj;subst hoj
    refine ⟨_,rfl,rfl,fun rj hrj hor'=> ?_⟩
    cases rj<;>try exact hor'.elim
    obtain ⟨r',h1,h2,h3⟩:=hor'
    exact ⟨r',h1,h2,fun t=>(VR.mono_all hok (fun _ _ h=>h)).1 (h3 t)⟩
   |diter=>simp only at hoj;subst hoj;exact ⟨_,rfl,rfl,fun rj hrj hor'=>by cases rj<;>exact hor'⟩
   |dead=>simp only at hoj;subst hoj;simp [Ob.live] at hlv
 ·intro k _ hne
  have:k≠b:=fun e=>hne (by rw [e];rfl)
  simp [Array.getElem?_setIfInBounds_ne (Ne.symm this)]
 ·intro ad v hv
  have hc:=h.wr.pi ad v hv
  have hne:ad.block≠b:=hno ad v hv
  rw [← hc]
  refine pc_same ?_
  simp [Array.getElem?_setIfInBounds_ne (Ne.symm hne)]
theorem SimW.mapTurn {r b:Nat} {kc:CK} {e:TypeId} {d d':D} {bs bs':List Nat} {cl cl':Nat} {es':Array MapEntry} (h:SimW tt B E Pp objs w) (ho:objs[r]? =some (.map kc e d)) (hE:E[r]? =some (.map b bs cl))
 (hb:∃ es,w.heap[b]? =some (.map es cl)) (hor:OR tt (E.set r (.map b bs' cl')) Pp { w with heap:=w.heap.setIfInBounds b (.map es' cl') } (.map b bs' cl') (.map kc e d')):
 SimW tt B (E.set r (.map b bs' cl')) Pp ((endIt r objs).set r (.map kc e d')) { w with heap:=w.heap.setIfInBounds b (.map es' cl') }:=by
 refine h.mapTurn0 ho rfl ?_ hE hb hor
 obtain ⟨ri,hri,h2⟩:=h.wr.ob r _ ho rfl
 rw [hE] at hri;cases hri
 obtain ⟨_,_,_,_,_,_,_,_,_,h3⟩:=h2
 exact h3
theorem aggIs_ok {b:Bool} {v:Value} {p:PV} (h:aggIs b p=true) (hv:VR tt E Pp v p) (ho:allL oneCell (flat p)=true):(b=true→∃ cs,v= .agg cs)∧(b=false→v.cells= #[v]):=by
 cases b with
 |true=>
  refine ⟨fun _=> ?_,fun h=>by cases h⟩
  cases hv<;>simp [aggIs] at h
  exact ⟨_,rfl⟩
 |false=>
  refine ⟨fun h=>(by cases h),fun _=> ?_⟩
  cases hv with
  |lst e v d hr=>cases hr<;>rfl
  |dptr t v d hr=>cases hr<;>rfl
  |dmp t e v d hr=>rcases hr.map_inv with ⟨rfl,_⟩|⟨_,_,_,_,rfl,_⟩<;>rfl
  |undef=>simp [aggIs] at h
  |agg=>simp [aggIs] at h
  |clos _ f _ _ hu _=>
   rcases Nat.lt_or_ge f bndM with hb|hb
   ·rw [hu.1 hb];rfl
   ·rw [hu.2 hb];rfl
  |rptr _ _ _ _ off _ _ _ _ _ _ hu=>
   by_cases hm:off=slcM
   ·obtain ⟨⟨o1,e,_⟩,_⟩:=hu.2 hm;rw [e];rfl
   ·rw [(hu.1 hm).1];rfl
  |pptr _ _ _ off _ _ hu _ _=>
   by_cases hm:off=slcM
   ·rw [hu.2 hm];rfl
   ·rw [hu.1 hm];rfl
  |box _ _ off _ _ hu=>
   by_cases hm:off≤slcM
   ·rw [hu.1 hm];rfl
   ·rw [hu.2 (off-(slcM+1)) (by omega)];rfl
  |_=>rfl
theorem mapPut_ok (htt:TtOk P tt) (h:SimW tt B E Pp st.o w) (hs:∀ t,VR tt E Pp (a.tmps.getD t undef) (look st.s t)) {o:Oper} {t:TypeId} {m k x:Operand} (hop:o.op= .mapUpdate t m k x∨o.op= .insert t m k x) {ti ki ei:TI} (hti:tt t=some ti) (hm:isMap ti=true)
 (hki:tt (ti.ar-1)=some ki) (hei:tt ti.el=some ei) {kc:CK} (hkc:keyOf ki=some kc) (hfit:keyFits kc (evT tt st.s (ti.ar-1) k)=true) {r:Nat} (hx:ev st.s m= .mp r) {d:D} (hob:getO st.o r= .map kc ti.el d)
 (hpos:0<ei.cks.length) (hfx:cksFit ei.cks (mapL (frz st.o 8) (flat (evT tt st.s ti.el x)))=true) (hone:allL oneCell (flat (evT tt st.s ti.el x))=true) (hagg:aggIs ei.agg (evT tt st.s ti.el x)=true) (hids:isEmptyL (catL (ids st.o 8) (flat (evT tt st.s ti.el x)))=true)
 {K:PV→St→Prop} (hK:K .undef ⟨st.s,setO (endIt r st.o) r (.map kc ti.el (std.mset d (keyD (evT tt st.s (ti.ar-1) k)) (mapL toD' (mapL (frz st.o 8) (flat (evT tt st.s ti.el x))))))⟩) {Q:Exit→Act→World→Prop}:o.wp P a w (Post tt B keep E Pp st.o w o a K) Q:=by
 obtain ⟨kt,e,hu,_,hel,har⟩:=(htt _ _ hti).map hm
 subst hel
 have hkt:ti.ar-1=kt:=by omega
 simp only [hkt] at*
 have hko:=keyOk_of (tt:=tt) (htt _ _ hki) hkc
 have hkr:=fit_kd hfit (evT_ok hs kt k)
 generalize hkd:keyD (evT tt st.s kt k)=kd at*
 have hxv:=evT_ok hs ti.el x
 have hagg':=aggIs_ok hagg hxv hone
 generalize hps:flat (evT tt st.s ti.el x)=ps at*
 have hl0:ps.length=ei.cks.length:=by
  have:∀ (cs:List CK) (qs:List PV),cksFit cs qs=true→qs.length=cs.length:=by
   intro cs
   induction cs with
   |nil=>intro qs h;cases qs<;>simp_all [cksFit]
   |cons c cs ih=>intro qs h;cases qs<;>simp_all [cksFit]
  have:=this _ _ hfx
  rwa [mapL_length] at this
 have hcells:VRL tt E Pp (a.eval x).cells.toList ps:=by
  rw [← hps]
  exact cells_ok hxv (by rw [hps];intro h0;rw [h0] at hl0;simp at hl0;omega)
 obtain ⟨_,hrd⟩:=fits_rd hfx (frz_none h.wr hcells hids)
 generalize hds:mapL toD' (mapL (frz st.o 8) ps)=ds at*
 have hdl:ds.length=ei.cks.length:=by rw [← hds,mapL_length,mapL_length];exact hl0
 have hcl:=hcells.length
 have hcks:cksOf tt ti.el=ei.cks:=by simp [cksOf,hei]
 -- the entry
 have hentry:∀ y:MapEntry,y.key=a.eval k→y.val=a.eval x→EntryAt tt Pp kc ti.el y (kd::ds):=by
  intro y h1 h2
  refine ⟨kd,ds,rfl,by rw [h1];exact hkr,by rw [hcks];exact hdl,by rw [h2];omega,?_,?_⟩
  ·intro j dd ck v hj hck hv
   rw [h2] at hv;rw [hcks] at hck
   exact hrd j ck v dd hck hv hj
  ·intro ti' hti'
   rw [hei] at hti';cases hti'
   rw [h2];exact hagg'
 have hmv:=ev_ok hs m
 rw [hx] at hmv
 have ho':=getO_live hob rfl
 obtain ⟨ri,hri,hor⟩:=h.wr.ob r _ ho' rfl
 have hexec:execOp a.eval o=(do Instr.mapUpdate t (a.eval m) (a.eval k) (a.eval x);pure .skip:Sem Next):=by
  rcases hop with hop|hop<;>simp [execOp,hop]
 have hquiet:quietOp keep o.op=false:=by rcases hop with hop|hop<;>rw [hop]<;>rfl
 generalize hgm:a.eval m=vm at hmv
 rw [hgm] at hexec
 cases hmv with
 |mp _ b bs cl hE=>
  rw [hE] at hri;cases hri
  obtain ⟨es,rows,hb,rfl,hl,hent,hborn,hnd,hlt,hno⟩:=hor
  have hck:=hko.check w hkr false
  rw [setO_eq] at hK
  have hbl:b<w.heap.size:=by
   rcases Nat.lt_or_ge b w.heap.size with h'|h'
   ·exact h'
   ·simp [Array.getElem?_eq_none h'] at hb
  have hset:∀ (x:Obj),(w.heap.setIfInBounds b x)[b]? =some x:=fun x=>Array.getElem?_setIfInBounds_self_of_lt hbl
  have slots:∀ bs' cl',∀ t,VR tt (E.set r (.map b bs' cl')) Pp (a.tmps.getD t undef) (look st.s t):=by
   intro bs' cl' t
   refine (VR.mono_all (fun i y hy=> ?_) (fun _ _ h=>h)).1 (hs t)
   by_cases hi:i=r
   ·subst hi
    rw [hE] at hy;cases hy
    exact .inr ⟨b,bs,cl,bs',cl',rfl,by rw [List.getElem?_set_self (lt_of_get hE)]⟩
   ·exact .inl (by rw [List.getElem?_set_ne (Ne.symm hi)];exact hy)
  rcases hko.find w hkr es.toList rows ⟨hl,hent⟩ with ⟨i,y,row,h1,h2,h3,h4,h5,h6,_,hfk⟩|⟨h1,h2,_,hfk⟩
  ·obtain ⟨kd',vd,rfl,e2,_⟩:=hent i y row h1 h2
   have hsb:=hko.bits hkr e2 (by simpa [hasKey] using h3)
   have hyi:es[i]? =some y:=by simpa using h1
   refine wp_skp (w':={ w with heap:=w.heap.setIfInBounds b (.map (es.modify i fun e=>{ e with key:=a.eval k,val:=a.eval x }) cl) }) ?_ ?_
   ·rw [hexec]
    simp [Instr.mapUpdate,run_underlying hu,getObj,setObj,Sem.run,hb,hck,hfk,hyi,Instr.keyThatStays,hsb]
   ·refine Post.mk (.undef _) (slots bs cl) ?_ hK (fun hq=>by rw [hquiet] at hq;cases hq)
    refine h.mapTurn ho' hE ⟨_,hb⟩ ?_
    refine ⟨_,rows.set i (kd::ds),hset _,by simp [rowsD,h6],by simp [hl],?_,?_,hnd,hlt,hno⟩
    ·intro j z rw hz hrow
     simp only [Array.toList_modify,List.getElem?_modify] at hz
     by_cases hij:i=j
     ·subst hij
      rw [h1] at hz
      rw [List.getElem?_set_self (lt_of_get h2)] at hrow
      simp at hz hrow
      subst hrow
      exact hentry z (by rw [← hz]) (by rw [← hz])
     ·rw [List.getElem?_set_ne hij] at hrow
      simp only [hij,if_false] at hz
      exact hent j z rw (by simpa using hz) hrow
    ·rw [← hborn]
     apply List.ext_getElem?
     intro j
     simp only [Array.toList_modify,List.getElem?_map,List.getElem?_modify]
     by_cases hij:i=j
     ·subst hij;simp [h1]
     ·simp [hij]
  ·refine wp_skp (w':={ w with heap:=w.heap.setIfInBounds b (.map (es.push { key:=a.eval k,val:=a.eval x,born:=cl }) (cl+1)) }) ?_ ?_
   ·rw [hexec]
    simp [Instr.mapUpdate,run_underlying hu,getObj,setObj,Sem.run,hb,hck,hfk]
   ·refine Post.mk (.undef _) (slots (bs++[cl]) (cl+1)) ?_ hK (fun hq=>by rw [hquiet] at hq;cases hq)
    refine h.mapTurn ho' hE ⟨_,hb⟩ ?_
    refine ⟨_,rows++[kd::ds],hset _,by simp [rowsD,h2],by simp [hl],?_,by simp [hborn],?_,?_,hno⟩
    ·intro j z rw hz hrow
     simp only [Array.toList_push] at hz
     rcases app_get hz with ⟨hlt1,hz1⟩|⟨j',rfl,hz1⟩
     ·rw [List.getElem?_append_left (by omega)] at hrow
      exact hent j z rw hz1 hrow
     ·rw [hl,List.getElem?_append_right (by omega)] at hrow
      cases j' with
      |zero=>
       simp at hz1 hrow;subst hrow
       exact hentry z (by rw [← hz1]) (by rw [← hz1])
      |succ j'=>simp at hz1
    ·rw [List.nodup_append]
     refine ⟨hnd,by simp,?_⟩
     intro a ha b hb
     simp at hb;subst hb
     have:=hlt a ha
     omega
    ·intro x hx
     simp at hx
     rcases hx with hx|rfl
     ·have:=hlt x hx;omega
     ·omega
theorem makeMapF_ok (h:SimW tt B E Pp st.o w) (hs:∀ t,VR tt E Pp (a.tmps.getD t undef) (look st.s t)) {o:Oper} {t:TypeId} (hop:o.op= .makeMap t none)
 {K:PV→St→Prop} (hK:K (.mp (lenL st.o)) ⟨st.s,appL st.o [.box []]⟩) {Q:Exit→Act→World→Prop}:o.wp P a w (Post tt B keep E Pp st.o w o a K) Q:=by
 rw [appL_eq,lenL_eq] at hK
 refine wp_val (v:=.map (some w.heap.size)) (w':=w.alloc (.map #[] 0)) ?_ ?_
 ·simp [execOp,hop,Instr.makeMap]
 ·refine Post.mk (E':=E++[.map w.heap.size [] 0]) (Pp':=Pp) (.mp _ _ [] 0 (by rw [← h.wr.len];simp)) (slots_push hs) ?_ hK (fun _ ad v hv=>hv.grow h.wr.len (fun _ _ h=>h) (fun k hk=>RowKit.Below.heap_alloc w _ k hk))
  exact h.new rfl ⟨#[],heap_alloc_at w _,.nil,rfl,List.nodup_nil,fun x hx=>by simp at hx,nopi_new h.wr⟩
theorem newKey_ok {kk:IntKind} {n:Int}:∀ (es:List MapEntry) (cs:List PV) (j:Nat),VRL tt E Pp (kvs es) cs→newKey kk n cs=true→Instr.findNow (.int kk) (.int kk n) es j=some none
 |[],_,_,_,_=>rfl
 |x::es,cs,j,h,hn=>by
  cases h with
  |cons _ q _ ps h1 h2=>
   cases h2 with
   |cons _ q2 _ ps2 h3 h4=>
    unfold newKey at hn
    split at hn
    ·rename_i e;cases e
    ·rename_i k' m _ cs e
     cases e
     split at hn
     ·rename_i hk hd
      have hm:=kEq_of hk
      subst hm
      generalize hx:x.key=y at h1
      cases h1
      have hb:(n==m)=false:=by simpa using of_decide_eq_false hd
      simp only [Instr.findNow,hx,Instr.sameNow,if_true,hb]
      exact newKey_ok es _ _ h4 hn
     ·cases hn
    ·cases hn
theorem getKey_ok {kk:IntKind} {n:Int}:∀ (es:List MapEntry) (cs:List PV) (j:Nat),VRL tt E Pp (kvs es) cs→∀ o,getKey kk n cs=some o→
 (match o with|none=>Instr.findNow (.int kk) (.int kk n) es j=some none|some p=>∃ i v,Instr.findNow (.int kk) (.int kk n) es j=some (some (i,v))∧VR tt E Pp v p)
 |[],_,_,h,o,ho=>by cases h;simp [getKey] at ho;subst ho;rfl
 |x::es,cs,j,h,o,ho=>by
  cases h with
  |cons _ q _ ps h1 h2=>
   cases h2 with
   |cons _ q2 _ ps2 h3 h4=>
    unfold getKey at ho
    split at ho
    ·rename_i e;cases e
    ·rename_i k' m _ cs e
     cases e
     split at ho
     ·rename_i hk hd
      have hm:=kEq_of hk
      subst hm
      generalize hx:x.key=y at h1
      cases h1
      have hne:=of_decide_eq_true hd
      cases ho
      exact ⟨j,x.val,by simp [Instr.findNow,hx,Instr.sameNow,hne],h3⟩
     ·rename_i hk hd
      have hm:=kEq_of hk
      subst hm
      generalize hx:x.key=y at h1
      cases h1
      have hb:(n==m)=false:=by simpa using of_decide_eq_false hd
      simp only [Instr.findNow,hx,Instr.sameNow,if_true,hb]
      exact getKey_ok es _ _ h4 o ho
     ·cases ho
    ·cases ho
theorem keyOf_int {t:TypeId} {ki:TI} {kk:IntKind} (h:TiOk P t ki) (hk:keyOf ki=some (.int kk)):P.underlying t=some (.int kk):=by
 unfold keyOf at hk
 split at hk
 ·rename_i c ha hc
  cases hs:scalarCk c with
  |false=>rw [hs] at hk;cases hk
  |true=>rw [hs] at hk;simp at hk;subst hk;exact key_desc h ha hc hs
 ·cases hs:ki.eqOk with
  |false=>rw [hs] at hk;cases hk
  |true=>rw [hs] at hk;cases hk
 ·cases hk
theorem mapPutF_ok (htt:TtOk P tt) (h:SimW tt B E Pp st.o w) (hs:∀ t,VR tt E Pp (a.tmps.getD t undef) (look st.s t)) {o:Oper} {t:TypeId} {m k x:Operand} (hop:o.op= .mapUpdate t m k x∨o.op= .insert t m k x) {ti ki:TI} (hti:tt t=some ti) (hm:isMap ti=true)
 (hki:tt (ti.ar-1)=some ki) {kk:IntKind} (hkc:keyOf ki=some (.int kk)) {n:Int} (hn:evT tt st.s (ti.ar-1) k= .int kk n) {r:Nat} (hx:ev st.s m= .mp r) {cs:List PV} (hob:getO st.o r= .box cs) (hnew:newKey kk n cs=true)
 {K:PV→St→Prop} (hK:K .undef ⟨st.s,setO (endIt r st.o) r (.box (appL cs [.int kk n,evT tt st.s ti.el x]))⟩) {Q:Exit→Act→World→Prop}:o.wp P a w (Post tt B keep E Pp st.o w o a K) Q:=by
 obtain ⟨kt,e,hu,_,hel,har⟩:=(htt _ _ hti).map hm
 subst hel
 have hkt:ti.ar-1=kt:=by omega
 simp only [hkt] at*
 have hku:=keyOf_int (htt _ _ hki) hkc
 have hkv:=evT_ok hs kt k
 rw [hn] at hkv
 have hxv:=evT_ok hs ti.el x
 have hmv:=ev_ok hs m
 rw [hx] at hmv
 have ho':=getO_live hob rfl
 obtain ⟨ri,hri,hor⟩:=h.wr.ob r _ ho' rfl
 have hexec:execOp a.eval o=(do Instr.mapUpdate t (a.eval m) (a.eval k) (a.eval x);pure .skip:Sem Next):=by
  rcases hop with hop|hop<;>simp [execOp,hop]
 have hquiet:quietOp keep o.op=false:=by rcases hop with hop|hop<;>rw [hop]<;>rfl
 generalize hgm:a.eval m=vm at hmv
 generalize hgk:a.eval k=vk at hkv
 rw [hgm,hgk] at hexec
 cases hkv
 cases hmv with
 |mp _ b bs cl hE=>
  rw [hE] at hri;cases hri
  obtain ⟨es,hb,hkvs,hborn,hnd,hlt,hno⟩:=hor
  have hck:(Instr.checkKey false 10000 kt (.int kk n)).run P w= .ok () w:=checkKey_ok (kc:=.int kk) (tt:=tt) (Pp:=Pp) (kd:=.int n) rfl hku (by constructor) _
  have hfk:(Instr.findKey kt (.int kk n) es.toList).run P w= .ok none w:=by
   simp [Instr.findKey,run_underlying hku,newKey_ok es.toList cs 0 hkvs hnew]
  rw [setO_eq] at hK
  have hbl:b<w.heap.size:=by
   rcases Nat.lt_or_ge b w.heap.size with h'|h'
   ·exact h'
   ·simp [Array.getElem?_eq_none h'] at hb
  have hset:∀ (x:Obj),(w.heap.setIfInBounds b x)[b]? =some x:=fun x=>Array.getElem?_setIfInBounds_self_of_lt hbl
  have hok:Eok E (E.set r (.map b (bs++[cl]) (cl+1))):=by
   intro i y hy
   by_cases hi:i=r
   ·subst hi
    rw [hE] at hy;cases hy
    exact .inr ⟨b,bs,cl,_,_,rfl,by rw [List.getElem?_set_self (lt_of_get hE)]⟩
   ·exact .inl (by rw [List.getElem?_set_ne (Ne.symm hi)];exact hy)
  refine wp_skp (w':={ w with heap:=w.heap.setIfInBounds b (.map (es.push { key:=.int kk n,val:=a.eval x,born:=cl }) (cl+1)) }) ?_ ?_
  ·rw [hexec]
   simp [Instr.mapUpdate,run_underlying hu,getObj,setObj,Sem.run,hb,hck,hfk]
  ·refine Post.mk (.undef _) (fun t=>(VR.mono_all hok (fun _ _ h=>h)).1 (hs t)) ?_ hK (fun hq=>by rw [hquiet] at hq;cases hq)
   refine h.mapTurn0 ho' rfl hno hE ⟨_,hb⟩ ?_
   refine ⟨_,hset _,?_,by simp [hborn],?_,?_,hno⟩
   ·have e1:∀ l:List MapEntry,kvs (l++[{ key:=.int kk n,val:=a.eval x,born:=cl }])=kvs l++[.int kk n,a.eval x]:=by
     intro l;induction l with
     |nil=>rfl
     |cons y l ih=>simp [kvs,ih]
    rw [Array.toList_push,e1,appL_eq]
    exact VRL.append ((VR.mono_all hok (fun _ _ h=>h)).2 hkvs) (.cons _ _ _ _ (.int _ _) (.cons _ _ _ _ ((VR.mono_all hok (fun _ _ h=>h)).1 hxv) .nil))
   ·rw [List.nodup_append]
    refine ⟨hnd,by simp,?_⟩
    intro a ha b hb
    simp at hb;subst hb
    have:=hlt a ha
    omega
   ·intro x hx
    simp at hx
    rcases hx with hx|rfl
    ·have:=hlt x hx;omega
    ·omega
theorem lookupF_ok (htt:TtOk P tt) (h:SimW tt B E Pp st.o w) (hs:∀ t,VR tt E Pp (a.tmps.getD t undef) (look st.s t)) {o:Oper} {t:TypeId} {m k:Operand} (hop:o.op= .lookup t m k false) {ti ki ei:TI} (hti:tt t=some ti) (hm:isMap ti=true)
 (hki:tt (ti.ar-1)=some ki) (hei:tt ti.el=some ei) {kk:IntKind} (hkc:keyOf ki=some (.int kk)) {n:Int} (hn:evT tt st.s (ti.ar-1) k= .int kk n) {r:Nat} (hx:ev st.s m= .mp r) {cs:List PV} (hob:getO st.o r= .box cs) {g:Option PV} (hg:getKey kk n cs=some g)
 {K:PV→St→Prop} (hK:match g with|some p=>K p st|none=>isFn ei=true∧K .nilf st) {Q:Exit→Act→World→Prop}:o.wp P a w (Post tt B keep E Pp st.o w o a K) Q:=by
 obtain ⟨kt,e,hu,_,hel,har⟩:=(htt _ _ hti).map hm
 subst hel
 have hkt:ti.ar-1=kt:=by omega
 simp only [hkt] at*
 have hku:=keyOf_int (htt _ _ hki) hkc
 have hkv:=evT_ok hs kt k
 rw [hn] at hkv
 have hmv:=ev_ok hs m
 rw [hx] at hmv
 have ho':=getO_live hob rfl
 obtain ⟨ri,hri,hor⟩:=h.wr.ob r _ ho' rfl
 generalize hgm:a.eval m=vm at hmv
 generalize hgk:a.eval k=vk at hkv
 cases hkv
 cases hmv with
 |mp _ b bs cl hE=>
  rw [hE] at hri;cases hri
  obtain ⟨es,hb,hkvs,hborn,hnd,hlt,hno⟩:=hor
  have hck:(Instr.checkKey es.isEmpty 10000 kt (.int kk n)).run P w= .ok () w:=checkKey_ok (kc:=.int kk) (tt:=tt) (Pp:=Pp) (kd:=.int n) rfl hku (by constructor) _
  have hgo:=getKey_ok es.toList cs 0 hkvs g hg
  cases g with
  |some p=>
   obtain ⟨i,v,h1,h2⟩:=hgo
   have hfk:(Instr.findKey kt (.int kk n) es.toList).run P w= .ok (some (i,v)) w:=by simp [Instr.findKey,run_underlying hku,h1]
   refine wp_val (v:=v) (w':=w) ?_ (Post.mk (s':=st.s) (o':=st.o) h2 hs h hK (fun _ ad v hv=>hv))
   simp only [execOp,hop,hgm,hgk,Instr.lookup,run_underlying hu,Sem.run_bind,Result.andThen_ok,getObj,Sem.run,hb,Sem.run_pure,hck,hfk]
   rfl
  |none=>
   have hfk:(Instr.findKey kt (.int kk n) es.toList).run P w= .ok none w:=by simp [Instr.findKey,run_underlying hku,hgo]
   obtain ⟨_,_,⟨z,hz,hzc⟩,_⟩:=(htt _ _ hei).run w
   obtain ⟨i0,z0,d0,hi0,_,_,hz0,hzc0,hag,_⟩:=(htt _ _ hei).info
   have hzz:z=z0:=by
    have:(zeroValue ti.el).run P w= .ok z0 w:=by simp [zeroValue,typeInfo,hi0,hz0]
    rw [hz] at this;cases this;rfl
   subst hzz
   have hzn:z= .nilFunc:=by
    have hf:=hK.1
    unfold isFn at hf
    split at hf
    ·rename_i ha hc
     rw [hag.2 ha,hc] at hzc
     simpa [zeroV] using hzc
    ·cases hf
   subst hzn
   refine wp_val (v:=.nilFunc) (w':=w) ?_ (Post.mk (s':=st.s) (o':=st.o) .nilf hs h hK.2 (fun _ ad v hv=>hv))
   simp only [execOp,hop,hgm,hgk,Instr.lookup,run_underlying hu,Sem.run_bind,Result.andThen_ok,getObj,Sem.run,hb,Sem.run_pure,hck,hfk,hz]
   rfl
theorem mapDel_ok (htt:TtOk P tt) (h:SimW tt B E Pp st.o w) (hs:∀ t,VR tt E Pp (a.tmps.getD t undef) (look st.s t)) {o:Oper} {t:TypeId} {m k:Operand} {as:Array Operand} {ts:Array TypeId} {tr:List TypeId} (hop:o.op= .call { callee:=.builtin .delete,args:=as,argTypes:=ts }) (has:as.toList=[m,k]) (hts:ts.toList=t::tr) {ti ki:TI} (hti:tt t=some ti) (hm:isMap ti=true)
 (hki:tt (ti.ar-1)=some ki) {kc:CK} (hkc:keyOf ki=some kc) (hfit:keyFits kc (evT tt st.s (ti.ar-1) k)=true) {r:Nat} (hx:ev st.s m= .mp r) {e:TypeId} {d:D} (hob:getO st.o r= .map kc e d)
 {K:PV→St→Prop} (hK:K (.tup []) ⟨st.s,setO (endIt r st.o) r (.map kc e (std.mdel d (keyD (evT tt st.s (ti.ar-1) k))))⟩) {Q:Exit→Act→World→Prop}:o.wp P a w (Post tt B keep E Pp st.o w o a K) Q:=by
 obtain ⟨kt,e',hu,_,hel,har⟩:=(htt _ _ hti).map hm
 have hkt:ti.ar-1=kt:=by omega
 simp only [hkt] at*
 have hko:=keyOk_of (tt:=tt) (htt _ _ hki) hkc
 have hkr:=fit_kd hfit (evT_ok hs kt k)
 generalize hkd:keyD (evT tt st.s kt k)=kd at*
 have hmv:=ev_ok hs m
 rw [hx] at hmv
 have ho':=getO_live hob rfl
 obtain ⟨ri,hri,hor⟩:=h.wr.ob r _ ho' rfl
 have hquiet:quietOp keep o.op=false:=by rw [hop];rfl
 obtain ⟨as⟩:=as
 obtain ⟨ts⟩:=ts
 simp only at has hts
 subst has hts
 generalize hgm:a.eval m=vm at hmv
 cases hmv with
 |mp _ b bs cl hE=>
  rw [hE] at hri;cases hri
  obtain ⟨es,rows,hb,rfl,hl,hent,hborn,hnd,hlt,hno⟩:=hor
  have hck:=hko.check w hkr es.isEmpty
  rw [setO_eq] at hK
  have hbl:b<w.heap.size:=by
   rcases Nat.lt_or_ge b w.heap.size with h'|h'
   ·exact h'
   ·simp [Array.getElem?_eq_none h'] at hb
  have hset:∀ (x:Obj),(w.heap.setIfInBounds b x)[b]? =some x:=fun x=>Array.getElem?_setIfInBounds_self_of_lt hbl
  have slots:∀ bs' cl',∀ t,VR tt (E.set r (.map b bs' cl')) Pp (a.tmps.getD t undef) (look st.s t):=by
   intro bs' cl' t
   refine (VR.mono_all (fun i y hy=> ?_) (fun _ _ h=>h)).1 (hs t)
   by_cases hi:i=r
   ·subst hi
    rw [hE] at hy;cases hy
    exact .inr ⟨b,bs,cl,bs',cl',rfl,by rw [List.getElem?_set_self (lt_of_get hE)]⟩
   ·exact .inl (by rw [List.getElem?_set_ne (Ne.symm hi)];exact hy)
  have hexec:execOp a.eval o=(do let v ←Builtin.delete_ ⟨t::tr⟩ o.type #[.map (some b),a.eval k];pure (.value v):Sem Next):=by
   simp [execOp,hop,resolve,invoke,builtin,hgm]
  rcases hko.find w hkr es.toList rows ⟨hl,hent⟩ with ⟨i,y,row,h1,h2,h3,h4,h5,h6,h8,hfk⟩|⟨h1,h2,h8,hfk⟩
  ·have hlt1:=lt_of_get h1
   refine wp_val (v:=.tuple #[]) (w':={ w with heap:=w.heap.setIfInBounds b (.map (es.eraseIdxIfInBounds i) cl) }) ?_ ?_
   ·rw [hexec]
    simp [Builtin.delete_,run_underlying hu,getObj,setObj,Sem.run,hb,hck,hfk]
   ·refine Post.mk (.tup _ _ .nil) (slots (bs.eraseIdx i) cl) ?_ hK (fun hq=>by rw [hquiet] at hq;cases hq)
    refine h.mapTurn ho' hE ⟨_,hb⟩ ?_
    have hel2:(es.eraseIdxIfInBounds i).toList=es.toList.eraseIdx i:=by simp
    refine ⟨_,rows.eraseIdx i,hset _,by simp [rowsD,h8],?_,?_,?_,?_,?_,hno⟩
    ·rw [hel2,List.length_eraseIdx,List.length_eraseIdx,hl]
    ·intro j z rw hz hrow
     rw [hel2,List.getElem?_eraseIdx] at hz
     rw [List.getElem?_eraseIdx] at hrow
     split at hz
     ·rename_i hji;rw [if_pos hji] at hrow;exact hent j z rw hz hrow
     ·rename_i hji;rw [if_neg hji] at hrow;exact hent (j+1) z rw hz hrow
    ·rw [hel2,←hborn];apply List.ext_getElem?;intro j;simp only [List.getElem?_map,List.getElem?_eraseIdx];split<;>simp
    ·exact hnd.sublist (List.eraseIdx_sublist _ _)
    ·intro x hx
     exact hlt x ((List.eraseIdx_sublist _ _).subset hx)
  ·refine wp_val (v:=.tuple #[]) (w':={ w with heap:=w.heap.setIfInBounds b (.map es cl) }) ?_ ?_
   ·rw [hexec]
    simp [Builtin.delete_,run_underlying hu,getObj,setObj,Sem.run,hb,hck,hfk]
   ·refine Post.mk (.tup _ _ .nil) (slots bs cl) ?_ hK (fun hq=>by rw [hquiet] at hq;cases hq)
    refine h.mapTurn ho' hE ⟨_,hb⟩ ?_
    exact ⟨_,rows,hset _,by simp [rowsD,h8],hl,hent,hborn,hnd,hlt,hno⟩
theorem range_ok (htt:TtOk P tt) (h:SimW tt B E Pp st.o w) (hs:∀ t,VR tt E Pp (a.tmps.getD t undef) (look st.s t)) {o:Oper} {t:TypeId} {m:Operand} (hop:o.op= .range t m) {ti:TI} (hti:tt t=some ti) (hm:isMap ti=true)
 {r:Nat} (hx:ev st.s m= .mp r) {kc:CK} {e:TypeId} {d:D} (hob:getO st.o r= .map kc e d)
 {K:PV→St→Prop} (hK:K (.it (lenL st.o)) ⟨st.s,appL st.o [.iter r (.list [])]⟩) {Q:Exit→Act→World→Prop}:o.wp P a w (Post tt B keep E Pp st.o w o a K) Q:=by
 obtain ⟨kt,e',hu,_,_,_⟩:=(htt _ _ hti).map hm
 have hmv:=ev_ok hs m
 rw [hx] at hmv
 have ho':=getO_live hob rfl
 obtain ⟨ri,hri,hor⟩:=h.wr.ob r _ ho' rfl
 rw [appL_eq,lenL_eq] at hK
 generalize hgm:a.eval m=vm at hmv
 cases hmv with
 |mp _ b bs cl hE=>
  rw [hE] at hri;cases hri
  obtain ⟨es,rows,hb,rfl,hl,hent,hborn,hnd,hlt,hno⟩:=hor
  refine wp_val (v:=.pointer (some ⟨w.heap.size,0,none⟩)) (w':=w.alloc (.mapIter (some b) cl #[] cl)) ?_ ?_
  ·simp [execOp,hop,hgm,Instr.range,run_underlying hu,getObj,Sem.run,hb]
  ·refine Post.mk (E':=E++[.iter w.heap.size]) (Pp':=Pp) (.it _ _ (by rw [← h.wr.len];simp)) (slots_push hs) ?_ hK (fun _ ad v hv=>hv.grow h.wr.len (fun _ _ h=>h) (fun k hk=>RowKit.Below.heap_alloc w _ k hk))
   exact h.new rfl ⟨b,bs,cl,[],app_left hE,heap_alloc_at w _,rfl,fun j hj=>by simp at hj⟩
theorem rangeD_ok (htt:TtOk P tt) (h:SimW tt B E Pp st.o w) (hs:∀ t,VR tt E Pp (a.tmps.getD t undef) (look st.s t)) {o:Oper} {t:TypeId} {m:Operand} (hop:o.op= .range t m) {ti:TI} (hti:tt t=some ti) (hm:isMap ti=true)
 {e:TypeId} {d:D} (hx:ev st.s m= .dmp e d)
 {K:PV→St→Prop} (hK:K (.it (lenL st.o)) ⟨st.s,appL st.o [.diter e d (.list [])]⟩) {Q:Exit→Act→World→Prop}:o.wp P a w (Post tt B keep E Pp st.o w o a K) Q:=by
 obtain ⟨kt,e',hu,_,_,_⟩:=(htt _ _ hti).map hm
 have hmv:=ev_ok hs m
 rw [hx] at hmv
 rw [appL_eq,lenL_eq] at hK
 generalize hgm:a.eval m=vm at hmv
 have hrd:∃ t',RD tt Pp (.map t' e) vm d:=by
  cases hmv with
  |dmp t' _ _ _ hr=>exact ⟨t',hr⟩
 obtain ⟨t',hrd⟩:=hrd
 rcases hrd.map_inv with ⟨rfl,rfl⟩|⟨b,es,clock,rows,rfl,rfl,m⟩
 ·refine wp_val (v:=.pointer (some ⟨w.heap.size,0,none⟩)) (w':=w.alloc (.mapIter none 0 #[] 0)) ?_ ?_
  ·simp [execOp,hop,hgm,Instr.range,run_underlying hu]
  ·refine Post.mk (E':=E++[.iter w.heap.size]) (Pp':=Pp) (.it _ _ (by rw [← h.wr.len];simp)) (slots_push hs) ?_ hK (fun _ ad v hv=>hv.grow h.wr.len (fun _ _ h=>h) (fun k hk=>RowKit.Below.heap_alloc w _ k hk))
   exact h.new rfl ⟨[],rfl,.inl ⟨rfl,rfl,_,_,_,heap_alloc_at w _⟩⟩
 ·have hb:=pc_map (h.wr.pi _ _ m.hpi)
  refine wp_val (v:=.pointer (some ⟨w.heap.size,0,none⟩)) (w':=w.alloc (.mapIter (some b) clock #[] clock)) ?_ ?_
  ·simp [execOp,hop,hgm,Instr.range,run_underlying hu,getObj,Sem.run,hb]
  ·refine Post.mk (E':=E++[.iter w.heap.size]) (Pp':=Pp) (.it _ _ (by rw [← h.wr.len];simp)) (slots_push hs) ?_ hK (fun _ ad v hv=>hv.grow h.wr.len (fun _ _ h=>h) (fun k hk=>RowKit.Below.heap_alloc w _ k hk))
   exact h.new rfl ⟨[],rfl,.inr ⟨b,es,clock,rows,rfl,m,heap_alloc_at w _,fun j hj=>by simp at hj⟩⟩
theorem next_run {b bm clock:Nat} {es:Array MapEntry} {arr:List Nat} (hb:w.heap[b]? =some (.mapIter (some bm) clock ⟨arr⟩ clock)) (hm:w.heap[bm]? =some (.map es clock)) (hold:∀ x∈es.toList,x.born<clock) (ty:TypeId):
 ((∀ x∈es.toList,x.born∈arr)∧(Instr.next (.pointer (some ⟨b,0,none⟩)) false ty).run P w= .ok (.tuple #[.bool false]) w)∨
 ∃ x w1,x∈es.toList∧x.born∉arr∧(w1=w∨w1=w.drew)∧(Instr.next (.pointer (some ⟨b,0,none⟩)) false ty).run P w= .ok (.tuple #[.bool true,x.key,x.val]) { w1 with heap:=w.heap.setIfInBounds b (.mapIter (some bm) clock ⟨arr++[x.born]⟩ clock) }:=by
 simp only [Instr.next,getObj,Sem.run_bind,Sem.run,hb,hm,Result.andThen,next_test_false ⟨arr⟩ es clock clock hold (Nat.le_refl _),Bool.false_eq_true,if_false]
 have hmem:∀ x∈(Array.filter (fun e=> !(⟨arr⟩:Array Nat).contains e.born) es).toList,x∈es.toList∧x.born∉arr:=fun x hx=>by
  simp at hx ⊢;exact hx
 have hall:(Array.filter (fun e=> !(⟨arr⟩:Array Nat).contains e.born) es)= #[]→∀ x∈es.toList,x.born∈arr:=fun h0 x hx=>by
  rw [Array.filter_eq_empty_iff] at h0
  have:=h0 x (by simpa using hx)
  simpa using this
 generalize Array.filter (fun e=> !(⟨arr⟩:Array Nat).contains e.born) es=L at hmem hall ⊢
 have e1:L.filter (fun x=>decide (x.born<clock))=L:=Array.filter_eq_self.2 (fun x hx=>by simpa using hold x (hmem x (by simpa using hx)).1)
 have e2:L.filter (fun x=>decide (x.born≥clock))= #[]:=by
  rw [Array.filter_eq_empty_iff]
  intro x hx
  have:=hold x (hmem x (by simpa using hx)).1
  simp
  omega
 simp only [e1,e2,Array.append_empty]
 by_cases h0:L.size=0
 ·left
  have:L= #[]:=Array.eq_empty_of_size_eq_zero h0
  subst this
  refine ⟨hall rfl,?_⟩
  simp [choose,Sem.run,Question.forced]
 ·right
  have hne:L.isEmpty=false:=by simp [Array.isEmpty,h0]
  simp only [hne,Bool.false_eq_true,if_false,Array.empty_append,Array.size_map]
  have hch:∃ (j:Nat) (w1:World),j<L.size∧(w1=w∨w1=w.drew)∧(choose (Question.mapNext L.size)).run P w= .ok j w1:=by
   by_cases hf:L.size≤1
   ·exact ⟨0,w,by omega,.inl rfl,by simp [choose,Sem.run,Question.forced,hf]⟩
   ·refine ⟨w.tape w.drawn (.mapNext L.size) % L.size,w.drew,Nat.mod_lt _ (by omega),.inr rfl,?_⟩
    simp only [choose,Sem.run,Question.forced,decide_eq_true_eq,hf,if_false,Question.cut]
    rfl
  obtain ⟨j,w1,hj,hal,hrun⟩:=hch
  have hx:=hmem L[j] (by simp)
  refine ⟨L[j],w1,hx.1,hx.2,hal,?_⟩
  have hh:w1.heap=w.heap:=by rcases hal with rfl|rfl<;>rfl
  simp only [hrun,Array.getElem?_map,Array.getElem?_eq_getElem hj,Option.map_some,Sem.run_bind,setObj,Sem.run,hh,hb,Result.andThen,Sem.run_pure]
  simp
theorem nodup_idx {l:List Nat} (h:l.Nodup) {i j:Nat} {x:Nat} (hi:l[i]? =some x) (hj:l[j]? =some x):i=j:=by
 have h1:=lt_of_get hi
 have h2:=lt_of_get hj
 rw [List.getElem?_eq_getElem h1] at hi
 rw [List.getElem?_eq_getElem h2] at hj
 simp at hi hj
 have hp:=List.pairwise_iff_getElem.1 h
 rcases Nat.lt_trichotomy i j with h3|h3|h3
 ·exact absurd (hi.trans hj.symm) (hp i j h1 h2 h3)
 ·exact h3
 ·exact absurd (hj.trans hi.symm) (hp j i h2 h1 h3)
theorem next_ok (htt:TtOk P tt) (h:SimW tt B E Pp st.o w) (hs:∀ t,VR tt E Pp (a.tmps.getD t undef) (look st.s t)) {o:Oper} {it:Operand} (hop:o.op= .next it false) {i m:Nat} (hx:ev st.s it= .it i) {seen d:D} (hoi:getO st.o i= .iter m seen) {kc:CK} {e:TypeId} (hom:getO st.o m= .map kc e d)
 {ei:TI} (hei:tt e=some ei)
 {K:PV→St→Prop} (hK1:std.allSeen d seen→K (.tup [.bl false]) st) (hK2:∀ j,std.unseen d seen j→K (.tup [.bl true,kcellPV std kc (std.cell d j 0),aggOf ei (cellsPV std d j 1 ei.cks)]) ⟨st.s,setO st.o i (.iter m (std.see seen j))⟩)
 {Q:Exit→Act→World→Prop}:o.wp P a w (Post tt B keep E Pp st.o w o a K) Q:=by
 have hiv:=ev_ok hs it
 rw [hx] at hiv
 have hoi':=getO_live hoi rfl
 have hom':=getO_live hom rfl
 obtain ⟨ri,hri,hori⟩:=h.wr.ob i _ hoi' rfl
 obtain ⟨rm,hrm,horm⟩:=h.wr.ob m _ hom' rfl
 have hquiet:quietOp keep o.op=false:=by rw [hop];rfl
 generalize hgi:a.eval it=vi at hiv
 cases hiv with
 |it _ b hE=>
  rw [hE] at hri;cases hri
  obtain ⟨bm,borns,clock,ls,hEm,hb,rfl,hls⟩:=hori
  rw [hEm] at hrm;cases hrm
  obtain ⟨es,rows,hbm,rfl,hl,hent,hborn,hnd,hlt,hno⟩:=horm
  have hbl:borns.length=es.toList.length:=by rw [← hborn];simp
  have hold:∀ x∈es.toList,x.born<clock:=fun x hx=>hlt _ (by rw [← hborn];exact List.mem_map_of_mem hx)
  have bget:∀ (j:Nat) x,es.toList[j]? =some x→borns[j]? =some x.born:=fun j x hj=>by rw [← hborn,List.getElem?_map,hj];rfl
  have inls:∀ (j:Nat) x,es.toList[j]? =some x→(x.born∈ls.map (fun (j:Nat)=>borns.getD j 0)↔j∈ls):=by
   intro j x hj
   rw [List.mem_map]
   constructor
   ·rintro ⟨k,hk,hkb⟩
    have h1:=bget j x hj
    have h2:borns[k]? =some x.born:=by
     have:=hls k hk
     rw [List.getElem?_eq_getElem this,←hkb]
     simp [List.getD,this]
    rw [nodup_idx hnd h1 h2];exact hk
   ·intro hk
    exact ⟨j,hk,by have:=bget j x hj;simp [List.getD,this]⟩
  have inrow:∀ (j:Nat),([D.int (j:Int)]∈ls.map (fun (j:Nat)=>[D.int (j:Int)])↔j∈ls):=by
   intro j
   rw [List.mem_map]
   constructor
   ·rintro ⟨k,hk,hkj⟩
    simp at hkj
    have:k=j:=by omega
    rw [← this];exact hk
   ·intro hk;exact ⟨j,hk,rfl⟩
  rcases next_run (P:=P) hb hbm hold o.type with ⟨hall,hrun⟩|⟨x,w1,hxm,hxn,hw1,hrun⟩
  ·refine wp_val (v:=.tuple #[.bool false]) (w':=w) (by simp [execOp,hop,hgi,hrun]) ?_
   refine Post.mk (s':=st.s) (o':=st.o) (.tup _ _ (.cons _ _ _ _ (.bl _) .nil)) hs h (hK1 ?_) (fun hq=>by rw [hquiet] at hq;cases hq)
   intro j hj
   have hj':j<es.toList.length:=by rw [hl];exact hj
   show [D.int (j:Int)]∈ls.map _
   rw [inrow]
   exact (inls j _ (List.getElem?_eq_getElem hj')).1 (hall _ (List.getElem_mem hj'))
  ·obtain ⟨j,hj⟩:=List.getElem?_of_mem hxm
   have hjl:=lt_of_get hj
   have hjn:j∉ls:=fun hk=>hxn ((inls j x hj).2 hk)
   have hrow:rows[j]? =some (rows[j]'(by omega)):=List.getElem?_eq_getElem (by omega)
   obtain ⟨kd,vd,hrd,e2,e3,e4,e5,e6⟩:=hent j x _ hj hrow
   have hcell:∀ n,std.cell (.list rows) (j:Int) n=(kd::vd).getD n .nil:=by
    intro n
    show ((rowsD (.list rows)).getD (j:Int).toNat []).getD n .nil=_
    simp [rowsD,List.getD,hrow,hrd]
   have hbl2:b<w.heap.size:=by
    rcases Nat.lt_or_ge b w.heap.size with h'|h'
    ·exact h'
    ·simp [Array.getElem?_eq_none h'] at hb
   refine wp_val (v:=.tuple #[.bool true,x.key,x.val]) (w':={ w1 with heap:=w.heap.setIfInBounds b (.mapIter (some bm) clock ⟨ls.map (fun (j:Nat)=>borns.getD j 0)++[x.born]⟩ clock) }) (by simp [execOp,hop,hgi,hrun]) ?_
   have hKj:=hK2 (j:Int) ⟨by omega,by show (j:Int)<((rowsD (.list rows)).length:Int);simp [rowsD];omega,by show [D.int (j:Int)]∉ls.map _;rw [inrow];exact hjn⟩
   rw [setO_eq] at hKj
   refine Post.mk (E':=E) (Pp':=Pp) ?_ hs ?_ hKj (fun hq=>by rw [hquiet] at hq;cases hq)
   ·refine .tup _ _ (.cons _ _ _ _ (.bl _) (.cons _ _ _ _ ?_ (.cons _ _ _ _ ?_ .nil)))
    ·rw [hcell 0];exact kcellPV_ok e2
    ·refine val_ok htt hei e3 e4 e5 e6 ?_
     intro n dd hn
     rw [hcell,Nat.add_comm]
     simp [List.getD,hn]
   ·have hlen:=lt_of_get hoi'
    have hos:w1.os=w.os:=by rcases hw1 with rfl|rfl<;>rfl
    have htp:w1.tape=w.tape:=by rcases hw1 with rfl|rfl<;>rfl
    have hout:w1.output=w.output:=by rcases hw1 with rfl|rfl<;>rfl
    have hdr:w.drawn≤w1.drawn:=by rcases hw1 with rfl|rfl;exact Nat.le_refl _;exact Nat.le_succ _
    refine h.turn hoi' rfl hE rfl (fun _ _=>rfl) hE (.inl (.refl _)) (by simp) ?_ (by rw [List.getElem?_set_self hlen]) (fun _=> ?_) hos htp hout (by simp) ?_ (fun _ _ h=>h) (fun _ _ h=>.inl h) (fun b' hb'=>.inl hb') ?_
    ·intro j' oj' hj' hoj hl
     rw [List.getElem?_set_ne (Ne.symm hj')] at hoj
     exact ⟨oj',hoj,hl,fun _ _ h=>h⟩
    ·refine ⟨bm,borns,clock,ls++[j],hEm,?_,?_,?_⟩
     ·show (w.heap.setIfInBounds b _)[b]? =_
      rw [Array.getElem?_setIfInBounds_self_of_lt hbl2]
      have:=bget j x hj
      simp [List.getD,this]
     ·simp [std,rowsD]
     ·intro k hk
      simp at hk
      rcases hk with hk|rfl
      ·exact hls k hk
      ·omega
    ·intro k _ hne
     have:k≠b:=fun e=>hne (by rw [e];rfl)
     simp [Array.getElem?_setIfInBounds_ne (Ne.symm this)]
    ·intro ad v hv
     have hc:=h.wr.pi ad v hv
     have hne:ad.block≠b:=by
      intro e
      simp [pc,e,hb] at hc
     rw [← hc]
     refine pc_same ?_
     simp [Array.getElem?_setIfInBounds_ne (Ne.symm hne)]
theorem nextD_ok (htt:TtOk P tt) (h:SimW tt B E Pp st.o w) (hs:∀ t,VR tt E Pp (a.tmps.getD t undef) (look st.s t)) {o:Oper} {it:Operand} (hop:o.op= .next it false) {i:Nat} (hx:ev st.s it= .it i) {e:TypeId} {seen d:D} (hoi:getO st.o i= .diter e d seen)
 {ei:TI} (hei:tt e=some ei)
 {K:PV→St→Prop} (hK1:std.allSeen d seen→K (.tup [.bl false]) st) (hK2:∀ j,std.unseen d seen j→K (.tup [.bl true,kcellPV std .str (std.cell d j 0),aggOf ei (cellsPV std d j 1 ei.cks)]) ⟨st.s,setO st.o i (.diter e d (std.see seen j))⟩)
 {Q:Exit→Act→World→Prop}:o.wp P a w (Post tt B keep E Pp st.o w o a K) Q:=by
 have hiv:=ev_ok hs it
 rw [hx] at hiv
 have hoi':=getO_live hoi rfl
 obtain ⟨ri,hri,hori⟩:=h.wr.ob i _ hoi' rfl
 have hquiet:quietOp keep o.op=false:=by rw [hop];rfl
 generalize hgi:a.eval it=vi at hiv
 cases hiv with
 |it _ b hE=>
  rw [hE] at hri;cases hri
  obtain ⟨ls,rfl,⟨rfl,rfl,n,ss,mm,hb⟩|⟨bm,es,clock,rows,rfl,m,hb,hls⟩⟩:=hori
  ·refine wp_val (v:=.tuple #[.bool false]) (w':=w) (by simp [execOp,hop,hgi,Instr.next,getObj,Sem.run,hb]) ?_
   refine Post.mk (s':=st.s) (o':=st.o) (.tup _ _ (.cons _ _ _ _ (.bl _) .nil)) hs h (hK1 ?_) (fun hq=>by rw [hquiet] at hq;cases hq)
   intro j hj
   simp [rowsD] at hj
  have hbm:=pc_map (h.wr.pi _ _ m.hpi)
  have hl:=m.len
  have hent:=m.ent
  have hnd:=m.nd
  have hlt:=m.lt
  obtain ⟨borns,hborn⟩:∃ borns,es.toList.map (·.born)=borns:=⟨_,rfl⟩
  rw [hborn] at hnd hlt hb
  have hbl:borns.length=es.toList.length:=by rw [← hborn];simp
  have hold:∀ x∈es.toList,x.born<clock:=fun x hx=>hlt _ (by rw [← hborn];exact List.mem_map_of_mem hx)
  have bget:∀ (j:Nat) x,es.toList[j]? =some x→borns[j]? =some x.born:=fun j x hj=>by rw [← hborn,List.getElem?_map,hj];rfl
  have inls:∀ (j:Nat) x,es.toList[j]? =some x→(x.born∈ls.map (fun (j:Nat)=>borns.getD j 0)↔j∈ls):=by
   intro j x hj
   rw [List.mem_map]
   constructor
   ·rintro ⟨k,hk,hkb⟩
    have h1:=bget j x hj
    have h2:borns[k]? =some x.born:=by
     have:k<borns.length:=by have:=hls k hk;omega
     rw [List.getElem?_eq_getElem this,←hkb]
     simp [List.getD,this]
    rw [nodup_idx hnd h1 h2];exact hk
   ·intro hk
    exact ⟨j,hk,by have:=bget j x hj;simp [List.getD,this]⟩
  have inrow:∀ (j:Nat),([D.int (j:Int)]∈ls.map (fun (j:Nat)=>[D.int (j:Int)])↔j∈ls):=by
   intro j
   rw [List.mem_map]
   constructor
   ·rintro ⟨k,hk,hkj⟩
    simp at hkj
    have:k=j:=by omega
    rw [← this];exact hk
   ·intro hk;exact ⟨j,hk,rfl⟩
  rcases next_run (P:=P) hb hbm hold o.type with ⟨hall,hrun⟩|⟨x,w1,hxm,hxn,hw1,hrun⟩
  ·refine wp_val (v:=.tuple #[.bool false]) (w':=w) (by simp [execOp,hop,hgi,hrun]) ?_
   refine Post.mk (s':=st.s) (o':=st.o) (.tup _ _ (.cons _ _ _ _ (.bl _) .nil)) hs h (hK1 ?_) (fun hq=>by rw [hquiet] at hq;cases hq)
   intro j hj
   have hj':j<es.toList.length:=by rw [hl];exact hj
   show [D.int (j:Int)]∈ls.map _
   rw [inrow]
   exact (inls j _ (List.getElem?_eq_getElem hj')).1 (hall _ (List.getElem_mem hj'))
  ·obtain ⟨j,hj⟩:=List.getElem?_of_mem hxm
   have hjl:=lt_of_get hj
   have hjn:j∉ls:=fun hk=>hxn ((inls j x hj).2 hk)
   have hrow:rows[j]? =some (rows[j]'(by omega)):=List.getElem?_eq_getElem (by omega)
   obtain ⟨kd,vd,hrd,e2,e3,e4,e5,e6⟩:=hent j x _ hj hrow
   have hcell:∀ n,std.cell (.list rows) (j:Int) n=(kd::vd).getD n .nil:=by
    intro n
    show ((rowsD (.list rows)).getD (j:Int).toNat []).getD n .nil=_
    simp [rowsD,List.getD,hrow,hrd]
   have hbl2:b<w.heap.size:=by
    rcases Nat.lt_or_ge b w.heap.size with h'|h'
    ·exact h'
    ·simp [Array.getElem?_eq_none h'] at hb
   refine wp_val (v:=.tuple #[.bool true,x.key,x.val]) (w':={ w1 with heap:=w.heap.setIfInBounds b (.mapIter (some bm) clock ⟨ls.map (fun (j:Nat)=>borns.getD j 0)++[x.born]⟩ clock) }) (by simp [execOp,hop,hgi,hrun]) ?_
   have hKj:=hK2 (j:Int) ⟨by omega,by show (j:Int)<((rowsD (.list rows)).length:Int);simp [rowsD];omega,by show [D.int (j:Int)]∉ls.map _;rw [inrow];exact hjn⟩
   rw [setO_eq] at hKj
   refine Post.mk (E':=E) (Pp':=Pp) ?_ hs ?_ hKj (fun hq=>by rw [hquiet] at hq;cases hq)
   ·refine .tup _ _ (.cons _ _ _ _ (.bl _) (.cons _ _ _ _ ?_ (.cons _ _ _ _ ?_ .nil)))
    ·rw [hcell 0];exact kcellPV_ok e2
    ·refine val_ok htt hei e3 e4 e5 e6 ?_
     intro n dd hn
     rw [hcell,Nat.add_comm]
     simp [List.getD,hn]
   ·have hlen:=lt_of_get hoi'
    have hos:w1.os=w.os:=by rcases hw1 with rfl|rfl<;>rfl
    have htp:w1.tape=w.tape:=by rcases hw1 with rfl|rfl<;>rfl
    have hout:w1.output=w.output:=by rcases hw1 with rfl|rfl<;>rfl
    have hdr:w.drawn≤w1.drawn:=by rcases hw1 with rfl|rfl;exact Nat.le_refl _;exact Nat.le_succ _
    refine h.turn hoi' rfl hE rfl (fun _ _=>rfl) hE (.inl (.refl _)) (by simp) ?_ (by rw [List.getElem?_set_self hlen]) (fun _=> ?_) hos htp hout (by simp) ?_ (fun _ _ h=>h) (fun _ _ h=>.inl h) (fun b' hb'=>.inl hb') ?_
    ·intro j' oj' hj' hoj hl
     rw [List.getElem?_set_ne (Ne.symm hj')] at hoj
     exact ⟨oj',hoj,hl,fun _ _ h=>h⟩
    ·refine ⟨ls++[j],by simp [std,rowsD],.inr ⟨bm,es,clock,rows,rfl,m,?_,?_⟩⟩
     ·show (w.heap.setIfInBounds b _)[b]? =_
      rw [Array.getElem?_setIfInBounds_self_of_lt hbl2,hborn]
      have:=bget j x hj
      simp [List.getD,this]
     ·intro k hk
      simp at hk
      rcases hk with hk|rfl
      ·exact hls k hk
      ·omega
    ·intro k _ hne
     have:k≠b:=fun e=>hne (by rw [e];rfl)
     simp [Array.getElem?_setIfInBounds_ne (Ne.symm this)]
    ·intro ad v hv
     have hc:=h.wr.pi ad v hv
     have hne:ad.block≠b:=by
      intro e
      simp [pc,e,hb] at hc
     rw [← hc]
     refine pc_same ?_
     simp [Array.getElem?_setIfInBounds_ne (Ne.symm hne)]
theorem entry_ok (htt:TtOk P tt) (h:SimW tt B E Pp st.o w) (hs:∀ t,VR tt E Pp (a.tmps.getD t undef) (look st.s t)) {o:Oper} {it:Operand} (hop:o.op= .entry it) {i m:Nat} (hx:ev st.s it= .it i) {seen d:D} (hoi:getO st.o i= .iter m seen) {kc:CK} {e:TypeId} (hom:getO st.o m= .map kc e d)
 {ei:TI} (hei:tt e=some ei) (hne:std.idx 0 (std.len seen)) (hlast:std.idx (std.last seen) (std.len d))
 {K:PV→St→Prop} (hK:K (.tup [kcellPV std kc (std.cell d (std.last seen) 0),aggOf ei (cellsPV std d (std.last seen) 1 ei.cks)]) st)
 {Q:Exit→Act→World→Prop}:o.wp P a w (Post tt B keep E Pp st.o w o a K) Q:=by
 have hiv:=ev_ok hs it
 rw [hx] at hiv
 have hoi':=getO_live hoi rfl
 have hom':=getO_live hom rfl
 obtain ⟨ri,hri,hori⟩:=h.wr.ob i _ hoi' rfl
 obtain ⟨rm,hrm,horm⟩:=h.wr.ob m _ hom' rfl
 generalize hgi:a.eval it=vi at hiv
 cases hiv with
 |it _ b hE=>
  rw [hE] at hri;cases hri
  obtain ⟨bm,borns,clock,ls,hEm,hb,rfl,hls⟩:=hori
  rw [hEm] at hrm;cases hrm
  obtain ⟨es,rows,hbm,rfl,hl,hent,hborn,hnd,hlt,hno⟩:=horm
  have hlne:ls≠[]:=by
   rintro rfl
   have:=hne.2
   simp [std,rowsD] at this
  obtain ⟨ls',j,rfl⟩:∃ ls' j,ls=ls'++[j]:=⟨ls.dropLast,ls.getLast hlne,(List.dropLast_concat_getLast hlne).symm⟩
  have hla:std.last (.list ((ls'++[j]).map fun (j:Nat)=>[D.int (j:Int)]))=(j:Int):=by simp [std,rowsD]
  rw [hla] at hK hlast
  have hjl:j<es.toList.length:=by
   have:=hlast.2
   simp [std,rowsD] at this
   omega
  have hj:es.toList[j]? =some (es.toList[j]):=List.getElem?_eq_getElem hjl
  generalize es.toList[j]=x at hj
  have hrow:rows[j]? =some (rows[j]'(by omega)):=List.getElem?_eq_getElem (by omega)
  obtain ⟨kd,vd,hrd,e2,e3,e4,e5,e6⟩:=hent j x _ hj hrow
  have hcell:∀ n,std.cell (.list rows) (j:Int) n=(kd::vd).getD n .nil:=by
   intro n
   show ((rowsD (.list rows)).getD (j:Int).toNat []).getD n .nil=_
   simp [rowsD,List.getD,hrow,hrd]
  have hbj:borns[j]? =some x.born:=by rw [← hborn,List.getElem?_map,hj];rfl
  have hfind:es.find? (·.born==x.born)=some x:=by
   rw [← Array.find?_toList]
   exact find_born x es.toList (by rw [hborn];exact hnd) (List.mem_of_getElem? hj)
  refine wp_val (v:=.tuple #[x.key,x.val]) (w':=w) ?_ ?_
  ·have hback:(⟨(ls'++[j]).map (fun (j:Nat)=>borns.getD j 0)⟩:Array Nat).back? =some x.born:=by
    simp [Array.back?,List.getD,hbj]
   simp only [execOp,hop,hgi,Instr.entry,getObj,Sem.run_bind,Sem.run,hb,hbm,Result.andThen_ok,hback,bne_self_eq_false,Bool.false_eq_true,if_false,hfind,Sem.run_pure]
  ·refine Post.mk (s':=st.s) (o':=st.o) ?_ hs h hK (fun _ ad v hv=>hv)
   refine .tup _ _ (.cons _ _ _ _ ?_ (.cons _ _ _ _ ?_ .nil))
   ·rw [hcell 0];exact kcellPV_ok e2
   ·refine val_ok htt hei e3 e4 e5 e6 ?_
    intro n dd hn
    rw [hcell,Nat.add_comm]
    simp [List.getD,hn]
theorem entryD_ok (htt:TtOk P tt) (h:SimW tt B E Pp st.o w) (hs:∀ t,VR tt E Pp (a.tmps.getD t undef) (look st.s t)) {o:Oper} {it:Operand} (hop:o.op= .entry it) {i:Nat} (hx:ev st.s it= .it i) {e:TypeId} {seen d:D} (hoi:getO st.o i= .diter e d seen)
 {ei:TI} (hei:tt e=some ei) (hne:std.idx 0 (std.len seen)) (hlast:std.idx (std.last seen) (std.len d))
 {K:PV→St→Prop} (hK:K (.tup [kcellPV std .str (std.cell d (std.last seen) 0),aggOf ei (cellsPV std d (std.last seen) 1 ei.cks)]) st)
 {Q:Exit→Act→World→Prop}:o.wp P a w (Post tt B keep E Pp st.o w o a K) Q:=by
 have hiv:=ev_ok hs it
 rw [hx] at hiv
 have hoi':=getO_live hoi rfl
 obtain ⟨ri,hri,hori⟩:=h.wr.ob i _ hoi' rfl
 generalize hgi:a.eval it=vi at hiv
 cases hiv with
 |it _ b hE=>
  rw [hE] at hri;cases hri
  obtain ⟨ls,rfl,⟨rfl,rfl,n,ss,mm,hb⟩|⟨bm,es,clock,rows,rfl,m,hb,hls⟩⟩:=hori
  ·have:=hne.2
   simp [std,rowsD] at this
  have hbm:=pc_map (h.wr.pi _ _ m.hpi)
  have hl:=m.len
  have hent:=m.ent
  have hnd:=m.nd
  obtain ⟨borns,hborn⟩:∃ borns,es.toList.map (·.born)=borns:=⟨_,rfl⟩
  rw [hborn] at hnd hb
  have hlne:ls≠[]:=by
   rintro rfl
   have:=hne.2
   simp [std,rowsD] at this
  obtain ⟨ls',j,rfl⟩:∃ ls' j,ls=ls'++[j]:=⟨ls.dropLast,ls.getLast hlne,(List.dropLast_concat_getLast hlne).symm⟩
  have hla:std.last (.list ((ls'++[j]).map fun (j:Nat)=>[D.int (j:Int)]))=(j:Int):=by simp [std,rowsD]
  rw [hla] at hK hlast
  have hjl:j<es.toList.length:=by
   have:=hlast.2
   simp [std,rowsD] at this
   omega
  have hj:es.toList[j]? =some (es.toList[j]):=List.getElem?_eq_getElem hjl
  generalize es.toList[j]=x at hj
  have hrow:rows[j]? =some (rows[j]'(by omega)):=List.getElem?_eq_getElem (by omega)
  obtain ⟨kd,vd,hrd,e2,e3,e4,e5,e6⟩:=hent j x _ hj hrow
  have hcell:∀ n,std.cell (.list rows) (j:Int) n=(kd::vd).getD n .nil:=by
   intro n
   show ((rowsD (.list rows)).getD (j:Int).toNat []).getD n .nil=_
   simp [rowsD,List.getD,hrow,hrd]
  have hbj:borns[j]? =some x.born:=by rw [← hborn,List.getElem?_map,hj];rfl
  have hfind:es.find? (·.born==x.born)=some x:=by
   rw [← Array.find?_toList]
   exact find_born x es.toList (by rw [hborn];exact hnd) (List.mem_of_getElem? hj)
  refine wp_val (v:=.tuple #[x.key,x.val]) (w':=w) ?_ ?_
  ·have hback:(⟨(ls'++[j]).map (fun (j:Nat)=>borns.getD j 0)⟩:Array Nat).back? =some x.born:=by
    simp [Array.back?,List.getD,hbj]
   simp only [execOp,hop,hgi,Instr.entry,getObj,Sem.run_bind,Sem.run,hb,hbm,Result.andThen_ok,hback,bne_self_eq_false,Bool.false_eq_true,if_false,hfind,Sem.run_pure]
  ·refine Post.mk (s':=st.s) (o':=st.o) ?_ hs h hK (fun _ ad v hv=>hv)
   refine .tup _ _ (.cons _ _ _ _ ?_ (.cons _ _ _ _ ?_ .nil))
   ·rw [hcell 0];exact kcellPV_ok e2
   ·refine val_ok htt hei e3 e4 e5 e6 ?_
    intro n dd hn
    rw [hcell,Nat.add_comm]
    simp [List.getD,hn]
end
end Go.VC
end

section
namespace Go.VC
open Go
section
variable {P:Program} {G:Cfg} {B:Base} {E:List RI} {Pp:Per} {w:World} {st:St} {a:Act}
def fen (r:Option Nat):Fence:={ Fence.wide with round:=r }
theorem room_fen {r:Option Nat} (n:Nat):(fen r).room n:=fun _ h=>by simp [fen,Fence.wide] at h
theorem callsIn_fen {r:Option Nat} {n:Nat} {f:FuncId} {args:Array Value} {w:World} {R:Ending→World→Prop} (h:Calls P f args w R):CallsIn (fen r) n P f args w R:=by
 have h1:CallsIn Fence.wide n P f args w R:=callsIn_wide.2 h
 exact ⟨trivial,fun cs _=>h1.2 cs (room_wide _)⟩
theorem roundIn_fen {r:Option Nat} {n l:Nat} {f:FuncId} {tmps:Array Value} {assign body:Code} {w:World} {R:Ending→World→Prop} (h:RoundIn Fence.wide n P l f tmps assign body w R):RoundIn (fen r) n P l f tmps assign body w R:=
 ⟨trivial,fun c cs _=>h.2 c cs (room_wide _)⟩
theorem wp_in {r:Option Nat} {o:Oper} {next:Act→World→Prop} {Q:Exit→Act→World→Prop} (hd:∀ c,o.op≠ .defer c) (h:o.wp P a w next Q):o.wpIn (fen r) 0 P a w next Q:=by
 refine ⟨fun _ _=>trivial,?_⟩
 show o.uponIn (fen r) 0 P a next Q ((o.semAt r a.eval).run P w)
 rw [Oper.semAt_eq r _ _ hd]
 unfold Oper.wp at h
 have hdep:∀ {n:Nat},(fen r).depth.isSome=true→1≤n:=fun h=>by simp [fen,Fence.wide] at h
 cases hx:(execOp a.eval o).run P w with
 |ok nx w'=>
  rw [hx] at h
  cases nx with
  |value v=>exact h
  |skip=>exact h
  |defer d=>exact h
  |enter f args=>exact ⟨hdep,callsIn_fen h⟩
  |row row args=>exact ⟨hdep,fun c cs _=>let ⟨v,w2,r2,s⟩:=h c cs;⟨v,w2,r2,stepsIn_wide.2 s⟩⟩
  |_=>exact h.elim
 |halt x w'=>
  rw [hx] at h
  cases x with
  |panic v=>exact h
  |_=>exact h.elim
theorem pure_step (htt:TtOk P G.tt) (h:SimW G.tt B E Pp st.o w) (hs:∀ t,VR G.tt E Pp (a.tmps.getD t undef) (look st.s t)) {o:Oper} {K:PV→St→Prop} (hc:pureOp std G.tt o.op o.type st.s st.o fun v=>K v st) {Q:Exit→Act→World→Prop}:
 o.wp P a w (Post G.tt B (G.keep,G.live) E Pp st.o w o a K) Q:=by
 obtain ⟨v,pv,hr,hv,hK⟩:=pureOp_ok htt h.wr.rw hs hc
 exact wp_val (hr w rfl) (Post.mk (s':=st.s) (o':=st.o) hv hs h hK (fun _ ad v hv=>hv))
theorem evArgs_ok (hs:∀ t,VR G.tt E Pp (a.tmps.getD t undef) (look st.s t)):∀ (xs:List Operand) (ts:List TypeId),VRL G.tt E Pp (xs.map a.eval) (evArgs G st.s xs ts)
 |[],_=>by simp [evArgs];exact .nil
 |x::xs,[]=>.cons _ _ _ _ (ev_ok hs x) (evArgs_ok hs xs [])
 |x::xs,t::ts=>.cons _ _ _ _ (evT_ok hs t x) (evArgs_ok hs xs ts)
theorem isNils_eval {x:Operand} (h:isNils x=true):a.eval x= .slice none 0 0:=by
 unfold isNils at h
 split at h
 ·rfl
 ·cases h
theorem evArgsN_ok (hs:∀ t,VR G.tt E Pp (a.tmps.getD t undef) (look st.s t)):∀ (xs:List Operand) (ts:List TypeId),VRL G.tt E Pp (xs.map a.eval) (evArgsN G st.s xs ts)
 |[],_=>by simp [evArgsN];exact .nil
 |x::xs,[]=>.cons _ _ _ _ (ev_ok hs x) (evArgsN_ok hs xs [])
 |x::xs,t::ts=>.cons _ _ _ _ (by
  cases hn:isNils x with
  |true=>rw [isNils_eval hn];exact .nils
  |false=>exact evT_ok hs t x) (evArgsN_ok hs xs ts)
theorem evArgsF_ok (hs:∀ t,VR G.tt E Pp (a.tmps.getD t undef) (look st.s t)) (f:FuncId) (xs:List Operand) (ts:List TypeId):VRL G.tt E Pp (xs.map a.eval) (evArgsF G f st.s xs ts):=by
 unfold evArgsF
 cases memL f G.live with
 |true=>exact evArgsN_ok hs xs ts
 |false=>exact evArgs_ok hs xs ts
theorem nilArgs_ok:∀ (xs:List Operand) (ts:List TypeId) {E:List RI} {o1:List Ob},SimW G.tt B E Pp o1 w→(∀ t,VR G.tt E Pp (a.tmps.getD t undef) (look st.s t))→
 ∃ E',SimW G.tt B E' Pp (o1++nilObs G xs ts) w∧(∀ (i:Nat) x,E[i]? =some x→E'[i]? =some x)∧VRL G.tt E' Pp (xs.map a.eval) (nilArgs G st.s o1.length xs ts)
 |[],ts,E,o1,h,_=>⟨E,by simpa [nilObs] using h,fun _ _ h=>h,by simp [nilArgs];exact .nil⟩
 |x::xs,[],E,o1,h,hs=>by
  obtain ⟨E',h1,h2,h3⟩:=nilArgs_ok xs [] h hs
  have hn:nilObs G xs []=[]:=by cases xs<;>rfl
  rw [hn] at h1
  refine ⟨E',by simpa [nilObs] using h1,h2,?_⟩
  exact .cons _ _ _ _ ((ev_ok hs x).mono h2 (fun _ _ h=>h)) h3
 |x::xs,t::ts,E,o1,h,hs=>by
  cases he:nilEl G x t with
  |none=>
   obtain ⟨E',h1,h2,h3⟩:=nilArgs_ok xs ts h hs
   refine ⟨E',by simpa [nilObs,he] using h1,h2,?_⟩
   simp only [nilArgs,he,List.map_cons]
   exact .cons _ _ _ _ ((evT_ok hs t x).mono h2 (fun _ _ h=>h)) h3
  |some e=>
   have hx:a.eval x= .slice none 0 0:=by
    unfold nilEl at he
    split at he
    ·rename_i hx
     unfold isNils at hx
     split at hx
     ·rfl
     ·simp at hx
    ·cases he
   have hp:SimW G.tt B (E++[.row0]) Pp (o1++[.row e (.list []) true]) w:=
    ⟨h.wr.push (fun _=>rfl) (fun b hb=>by simp [RI.block?] at hb),pre_push h.pre,h.per,h.fr,h.pnew,h.fresh.push h.wr.len (fun b hb=>by simp [RI.block?] at hb)⟩
   obtain ⟨E',h1,h2,h3⟩:=nilArgs_ok xs ts hp (fun t=>(hs t).mono mem_push (fun _ _ h=>h))
   refine ⟨E',by simpa [nilObs,he] using h1,fun i y hy=>h2 i y (mem_push i y hy),?_⟩
   simp only [nilArgs,he,List.map_cons,hx]
   refine .cons _ _ _ _ (.row0 _ _ (h2 _ _ ?_)) (by simpa using h3)
   rw [← h.wr.len];simp
theorem dup_ok (h:SimW G.tt B E Pp st.o w) (hs:∀ t,VR G.tt E Pp (a.tmps.getD t undef) (look st.s t)) {o:Oper} {t r:Nat} {e:TypeId} (hop:o.op= .move (.tmp t)) (hl:look st.s t= .row e r) {kp:List FuncId×List FuncId}
 {K:PV→St→Prop} (hK:K (.row e r) ⟨litS st.o r st.s,hurtO [r] 0 st.o⟩) {Q:Exit→Act→World→Prop}:o.wp P a w (Post G.tt B kp E Pp st.o w o a K) Q:=by
 have hv:=hs t
 rw [hl] at hv
 have h1:=h.hurt [r]
 refine wp_val (v:=a.tmps.getD t undef) (w':=w) ?_ ?_
 ·simp only [execOp,hop];rfl
 ·refine Post.mk (hv.mono (fun _ _ h=>h) (fun _ _ h=>.inl h)) ?_ h1 hK (fun _ ad u hu=>hu.hurt _)
  intro t'
  rw [look_litS]
  have h2:=hs t'
  generalize look st.s t'=p at h2
  unfold litP
  split
  ·rename_i e' x
   cases hb:nb x r with
   |false=>exact h2.mono (fun _ _ h=>h) (fun _ _ h=>.inl h)
   |true=>
    have:=nb_of hb
    subst this
    exact (frz_ok h.wr 8 _ _ h2 (fun i hi=>hi)).mono (fun _ _ h=>by simp at h) (fun _ _ h=>h)
  ·exact h2.mono (fun _ _ h=>h) (fun _ _ h=>.inl h)
theorem call_step {f:FuncId} {vals:List Value} {kp:Bool} {args:List PV} {o:Oper} {K:PV→St→Prop} (htt:TtOk P G.tt) (h:SimW G.tt B E Pp st.o w) (hs:∀ t,VR G.tt E Pp (a.tmps.getD t undef) (look st.s t)) (hv:VRL G.tt E Pp vals args)
 (hrun:(execOp a.eval o).run P w=(callFunc f ⟨vals⟩).run P w) (hc:callC G (FCx P G.tt) kp f args st K) (hq:quietOp (G.keep,G.live) o.op=true→(kp&&memL f G.keep)=false∧memL f G.live=false) {Q:Exit→Act→World→Prop}:
 o.wp P a w (Post G.tt B (G.keep,G.live) E Pp st.o w o a K) Q:=by
 have fin:∀ e w',(∃ v pv s' o' E' Pp',e=Ending.returned v∧VR G.tt E' Pp' v pv∧(∀ t,VR G.tt E' Pp' (a.tmps.getD t undef) (look s' t))∧SimW G.tt B E' Pp' o' w'∧K pv ⟨s',o'⟩∧
  ((kp&&memL f G.keep)=false→memL f G.live=false→∀ ad v,Held G.tt E Pp st.o w ad v→Held G.tt E' Pp' o' w' ad v)∧(∀ ad v,Pp ad v→Pp' ad v))→∃ v,e= .returned v∧Post G.tt B (G.keep,G.live) E Pp st.o w o a K (a.put o.dst v) w':=by
  rintro e w' ⟨v,pv,s',o',E',Pp',rfl,hvr,hs',hw',hK,hH,hM⟩
  exact ⟨v,rfl,Post.mk hvr hs' hw' hK (fun hqq=>hH (hq hqq).1 (hq hqq).2) hM⟩
 rcases callC_ok rfl h hs hv hc with ⟨h1,h2⟩|⟨v,w',h1,h2⟩
 ·simp only [Oper.wp,hrun,h1]
  refine h2.mono ?_
  intro e w' he
  obtain ⟨v,rfl,hp⟩:=fin e w' he
  exact hp
 ·obtain ⟨v',hv',hp⟩:=fin _ _ h2
  cases hv'
  exact wp_val (by rw [hrun];exact h1) hp
theorem mapPut0_step (htt:TtOk P G.tt) (h:SimW G.tt B E Pp st.o w) (hs:∀ t,VR G.tt E Pp (a.tmps.getD t undef) (look st.s t)) {o:Oper} {t:TypeId} {m k x:Operand} (hop:o.op= .mapUpdate t m k x∨o.op= .insert t m k x)
 {K:PV→St→Prop} (hc:mapPut0 std G t m k x st (K .undef)) {Q:Exit→Act→World→Prop}:o.wp P a w (Post G.tt B (G.keep,G.live) E Pp st.o w o a K) Q:=by
 unfold mapPut0 at hc
 split at hc
 ·rename_i ti hti
  cases hb:isMap ti with
  |false=>rw [hb] at hc;exact hc.elim
  |true=>
   rw [hb] at hc
   simp only [cond_true] at hc
   split at hc
   ·rename_i ki ei hki hei
    split at hc
    ·rename_i kc hkc
     cases hb2:keyFits kc (evT G.tt st.s (ti.ar-1) k) with
     |false=>rw [hb2] at hc;exact hc.elim
     |true=>
      rw [hb2] at hc
      simp only [cond_true] at hc
      split at hc
      ·rename_i r hx
       split at hc
       ·rename_i cs hob
        split at hc
        ·rename_i kk k' n hn
         cases hb3:(kEq kk k'&&newKey kk n cs) with
         |false=>rw [hb3] at hc;exact hc.elim
         |true=>
          rw [hb3] at hc
          rw [Bool.and_eq_true] at hb3
          have q1:=kEq_of hb3.1
          subst q1
          exact mapPutF_ok htt h hs hop hti hb hki hkc hn hx hob hb3.2 hc
        ·exact hc.elim
       ·rename_i kc' e d hob
        cases hb3:(decide (kc=kc')&&nb e ti.el&&nlt 0 (lenL ei.cks)&&cksFit ei.cks (mapL (frz st.o 8) (flat (evT G.tt st.s ti.el x)))&&allL oneCell (flat (evT G.tt st.s ti.el x))&&aggIs ei.agg (evT G.tt st.s ti.el x)&&isEmptyL (catL (ids st.o 8) (flat (evT G.tt st.s ti.el x)))) with
        |false=>rw [hb3] at hc;exact hc.elim
        |true=>
         rw [hb3] at hc
         simp only [Bool.and_eq_true,decide_eq_true_eq,lenL_eq] at hb3
         obtain ⟨⟨⟨⟨⟨⟨q1,q2⟩,q3⟩,q5⟩,q6⟩,q7⟩,q8⟩:=hb3
         have q2:=nb_of q2
         have q3:0+1≤ei.cks.length:=nle_of q3
         subst q1 q2
         exact mapPut_ok htt h hs hop hti hb hki hei hkc hb2 hx hob (by omega) q5 q6 q7 q8 hc
       ·exact hc.elim
      ·exact hc.elim
    ·exact hc.elim
   ·exact hc.elim
 ·exact hc.elim
theorem mapPut_step (htt:TtOk P G.tt) (h:SimW G.tt B E Pp st.o w) (hs:∀ t,VR G.tt E Pp (a.tmps.getD t undef) (look st.s t)) {o:Oper} {t:TypeId} {m k x:Operand} (hop:o.op= .mapUpdate t m k x∨o.op= .insert t m k x)
 {K:PV→St→Prop} (hc:mapPut std G t m k x st (K .undef)) {Q:Exit→Act→World→Prop}:o.wp P a w (Post G.tt B (G.keep,G.live) E Pp st.o w o a K) Q:=by
 unfold mapPut at hc
 split at hc
 ·rename_i ti hti
  split at hc
  ·rename_i j hj
   obtain ⟨Pp',h1,h2,h3,_⟩:=sinkSt_ok j h hs
   refine Oper.wp_mono ?_ (mapPut0_step (K:=K) htt h1 h3 hop hc)
   rintro a' w' ⟨st',E',Pp2,v,pv,e1,e2,e3,e4,e5,_,e7⟩
   refine ⟨st',E',Pp2,v,pv,e1,e2,e3,e4,e5,fun hq=> ?_,fun ad v hv=>e7 _ _ (h2 _ _ hv)⟩
   rcases hop with hop|hop<;>rw [hop] at hq<;>cases hq
  ·exact mapPut0_step htt h hs hop hc
 ·exact hc.elim
theorem plain_zero {ei:TI} (hpl:plainEl ei=true) {d kd:D} (hno:std.mhas d kd=false) {E:List RI} {Pp:Per} {v:Value} (hvz:VR G.tt E Pp v (aggOf ei (ei.cks.map zeroPV))):VR G.tt E Pp v (aggOf ei (mcellsPV std d kd 0 ei.cks)):=by
 have hg:∀ j,std.mget d kd j= .nil:=by
  intro j
  have hno:(rowsD d).any (hasKey kd)=false:=hno
  have:(rowsD d).find? (hasKey kd)=none:=by
   rw [List.find?_eq_none];intro x hx
   rw [List.any_eq_false] at hno;exact hno x hx
  simp [std,this]
 unfold plainEl at hpl
 split at hpl
 ·rename_i ha hcks
  rw [hcks] at hvz ⊢
  show VR _ _ _ _ (aggOf ei [cellPV std _ (std.mget d kd 0)])
  rw [hg];exact hvz
 ·rename_i ha hcks
  rw [hcks] at hvz ⊢
  show VR _ _ _ _ (aggOf ei [cellPV std _ (std.mget d kd 0)])
  rw [hg];exact hvz
 ·rename_i ha hcks
  rw [hcks] at hvz ⊢
  show VR _ _ _ _ (aggOf ei [cellPV std _ (std.mget d kd 0)])
  rw [hg]
  simp only [aggOf,ha,List.map,cond_false] at hvz ⊢
  cases hvz;exact .bool _
 ·rename_i ha hcks
  rw [hcks] at hvz ⊢
  show VR _ _ _ _ (aggOf ei [cellPV std _ (std.mget d kd 0)])
  rw [hg]
  simp only [aggOf,ha,List.map,cond_false] at hvz ⊢
  rename_i t0 e0
  cases hvz;exact .dmp t0 _ _ _ (.mnil _ _)
 ·cases hpl
theorem mapDel_step (htt:TtOk P G.tt) (h:SimW G.tt B E Pp st.o w) (hs:∀ t,VR G.tt E Pp (a.tmps.getD t undef) (look st.s t)) {o:Oper} {t:TypeId} {m k:Operand} {as:Array Operand} {ts:Array TypeId} {tr:List TypeId} (hop:o.op= .call { callee:=.builtin .delete,args:=as,argTypes:=ts }) (has:as.toList=[m,k]) (hts:ts.toList=t::tr)
 {K:PV→St→Prop} (hc:mapDel std G t m k st (K (.tup []))) {Q:Exit→Act→World→Prop}:o.wp P a w (Post G.tt B (G.keep,G.live) E Pp st.o w o a K) Q:=by
 unfold mapDel at hc
 split at hc
 ·rename_i ti hti
  cases hb:isMap ti with
  |false=>rw [hb] at hc;exact hc.elim
  |true=>
   rw [hb] at hc
   simp only [cond_true] at hc
   split at hc
   ·rename_i ki hki
    split at hc
    ·rename_i kc hkc
     cases hb2:keyFits kc (evT G.tt st.s (ti.ar-1) k) with
     |false=>rw [hb2] at hc;exact hc.elim
     |true=>
      rw [hb2] at hc
      simp only [cond_true] at hc
      split at hc
      ·rename_i r hx
       split at hc
       ·rename_i kc' e d hob
        cases hb3:decide (kc=kc') with
        |false=>rw [hb3] at hc;exact hc.elim
        |true=>
         rw [hb3] at hc
         simp only [decide_eq_true_eq] at hb3
         subst hb3
         exact mapDel_ok htt h hs hop has hts hti hb hki hkc hb2 hx hob hc
       ·exact hc.elim
      ·exact hc.elim
    ·exact hc.elim
   ·exact hc.elim
 ·exact hc.elim
theorem yld_step {r0:Option Nat} (h:SimW G.tt B E Pp st.o w) (hs:∀ t,VR G.tt E Pp (a.tmps.getD t undef) (look st.s t)) {o:Oper} {f:Operand} {as:Array Operand} {ts:Array TypeId} (hop:o.op= .call { callee:=.value f,args:=as,argTypes:=ts }) (hnf:∀ g,f≠ .func g) {i:Nat} (hi:ev st.s f= .yld i)
 {K:PV→St→Prop} (hlive:isEmptyL G.live=false) (hc:yldC (FCx P G.tt) i (evArgs G st.s as.toList ts.toList) st K) {Q:Exit→Act→World→Prop}:o.wpIn (fen r0) 0 P a w (Post G.tt B (G.keep,G.live) E Pp st.o w o a K) Q:=by
 unfold yldC at hc
 split at hc
 ·rename_i n ps c1 c2 s hob
  simp only [yldC.liveY] at hc
  have hv:=evArgs_ok (G:=G) hs as.toList ts.toList
  generalize hF:reach st.o 64 (i::catL (refs1 8) (evArgs G st.s as.toList ts.toList)) []=F at hc
  have hF0:F[0]? =some i:=by
   rw [← hF]
   exact reach_head 63 _ _
  unfold liveC2 at hc
  cases hb:(nodupL F&&allL (fun r=>nlt r (lenL st.o)) F) with
  |false=>rw [hb] at hc;exact hc.elim
  |true=>
   rw [hb] at hc
   simp only [Bool.and_eq_true,lenL_eq] at hb
   have hl:=live_ok (K:=K) h hs hv (nodupL_eq hb.1) (allLt hb.2)
   have hfv:=ev_ok hs f
   rw [hi] at hfv
   generalize hgf:a.eval f=vf at hfv
   cases hfv with
   |yld _ l hE=>
    obtain ⟨ri,hri,hor⟩:=h.wr.ob i _ (getO_live hob rfl) rfl
    rw [hE] at hri;cases hri
    obtain ⟨rec,hrec,hat,_⟩:=hor
    obtain ⟨hlen,hround⟩:=hc _ _ w _ l rec hl.1 (pick_E hF0 hE) hrec hl.2.1
    refine ⟨fun _ _=>trivial,?_⟩
    have hsem:o.semAt r0 a.eval=execOp a.eval o:=Oper.semAt_eq _ _ _ (fun c=>by rw [hop];intro h;cases h)
    have hmap:as.map a.eval=⟨as.toList.map a.eval⟩:=by apply Array.ext';simp
    have hrun:(execOp a.eval o).run P w= .ok (.round l rec.fn ((rec.params.zip (⟨as.toList.map a.eval⟩:Array Value)).foldl (fun tmps (t,a)=>tmps.setIfInBounds t a) rec.tmps) rec.assign rec.body) w:=by
     have hy:=run_yield (P:=P) hrec (args:=⟨as.toList.map a.eval⟩) (by simpa using hlen)
     simp [execOp,hop,resolve,invoke,hgf,Deferred.ofValue,hmap]
     simpa using hy
    show o.uponIn (fen r0) 0 P a _ Q ((o.semAt r0 a.eval).run P w)
    rw [hsem,hrun]
    refine ⟨fun h=>by simp [fen,Fence.wide] at h,(roundIn_fen hround).mono ?_⟩
    intro e w' hq
    obtain ⟨v,pv,s',o',E',Pp',rfl,q2,q3,q4,q5,q6,_⟩:=hl.2.2 e w' hq
    refine Post.mk q2 q3 q4 q5 (fun hq=> ?_) q6
    exfalso
    rw [hop] at hq
    cases f<;>first|exact absurd rfl (hnf _)|(simp only [quietOp] at hq;rw [hq] at hlive;cases hlive)
 ·exact hc.elim
theorem appTo_ok (htt:TtOk P G.tt) (hB:B.E0.length=G.n0) (h:SimW G.tt B E Pp st.o w) (hs:∀ t,VR G.tt E Pp (a.tmps.getD t undef) (look st.s t)) {o:Oper} {x y:Operand} {t1 t2 e:TypeId} {as:Array Operand} {ts:Array TypeId}
 (hop:o.op= .call { callee:=.builtin .append,args:=as,argTypes:=ts }) (has:as.toList=[x,y]) (hts:ts.toList=[t1,t2])
 {i1 i2 ei:TI} (h1:G.tt t1=some i1) (h2:G.tt t2=some i2) (he1:sliceEl i1=some e) (he2:P.underlying t2=some (.slice e)∨P.underlying t2=some .string) (hei:G.tt e=some ei) (hby:ei.bytes≤1024)
 {rows:List (List D)} {news:List Value} (hR:Reads G.tt Pp w e (a.eval y) rows news) {K:PV→St→Prop} (hc:appTo std G e (evM G.tt st.s t1 x) (.list rows) st o K) {Q:Exit→Act→World→Prop}:
 o.wp P a w (Post G.tt B (G.keep,G.live) E Pp st.o w o a K) Q:=by
 have hxv:=evM_ok hs t1 x
 unfold appTo at hc
 split at hc
 ·rename_i e4 r hx
  rw [hx] at hxv
  split at hc
  ·rename_i e5 d wr hob
   cases hb4:(nb e e4&&nb e e5&&nle G.n0 r) with
   |false=>rw [hb4] at hc;exact hc.elim
   |true=>
    rw [hb4] at hc
    simp only [Bool.and_eq_true] at hb4
    have q1:=nb_of hb4.1.1
    have q2:=nb_of hb4.1.2
    have q3:=nle_of hb4.2
    subst q1 q2
    obtain ⟨hbnd,hc⟩:=hc
    exact append_row_ok htt h hs hop has hts h1 h2 he1 he2 hei hby hR hxv hob (by omega) (by have:=hbnd.2;simpa [std,rowsD] using this) hc
  ·exact hc.elim
 ·rename_i e4 d hx
  rw [hx] at hxv
  cases hb4:nb e e4 with
  |false=>rw [hb4] at hc;exact hc.elim
  |true=>
   rw [hb4] at hc
   have q1:=nb_of hb4
   subst q1
   simp only [cond_true] at hc
   obtain ⟨hbnd,hc⟩:=hc
   refine append_lsf_ok htt h hs hop has hts h1 h2 he1 he2 hei hby hR hxv (by have:=hbnd.2;simpa [std,rowsD] using this) ?_
   cases ho:memO o.dst G.own with
   |true=>
    rw [ho] at hc
    obtain ⟨hp,hc⟩:=hc
    refine .inl ⟨?_,hc⟩
    have:=hp.2
    simpa [std,rowsD] using this
   |false=>rw [ho] at hc;exact .inr hc
 ·exact hc.elim
theorem stepC_wp (htt:TtOk P G.tt) (hB:B.E0.length=G.n0) (h:SimW G.tt B E Pp st.o w) (hs:∀ t,VR G.tt E Pp (a.tmps.getD t undef) (look st.s t)) {o:Oper} {K:PV→St→Prop} (hc:stepC std G (FCx P G.tt) o st K) (hy:∀ f as ts i,o.op= .call { callee:=.value f,args:=as,argTypes:=ts }→(∀ g,f≠ .func g)→ev st.s f≠ .yld i) {Q:Exit→Act→World→Prop}:
 o.wp P a w (Post G.tt B (G.keep,G.live) E Pp st.o w o a K) Q:=by
 unfold stepC at hc
 split at hc
 ·-- alloc
  rename_i t hop
  split at hc
  ·rename_i ti hti
   split at hc
   ·rename_i e ho he;exact alloc_own_ok htt h hs hop hti he hc
   ·cases hb:bldC ti (ownZ (lenL st.o) ti.cks) with
    |false=>rw [hb] at hc;exact hc.elim
    |true=>rw [hb] at hc;exact alloc_rows_ok htt h hs hop hti (by rw [lenL_eq] at hb;exact bldC_ok hti hb) hc
   ·cases hb:bldC ti (ti.cks.map zeroPV) with
    |false=>rw [hb] at hc;exact hc.elim
    |true=>rw [hb] at hc;exact alloc_ok htt h hs hop hti (bldC_ok hti hb) hc
  ·exact hc.elim
 ·-- box
  rename_i t x hop
  split at hc
  ·rename_i ti hti
   cases hb:(nb (lenL (flat (evT G.tt st.s t x))) (lenL ti.cks)&&nlt 0 (lenL ti.cks)&&bldC ti (flat (evT G.tt st.s t x))) with
   |false=>rw [hb] at hc;exact hc.elim
   |true=>
    rw [hb] at hc
    simp only [Bool.and_eq_true,lenL_eq] at hb
    have h1:=nb_of hb.1.1
    have h2:0+1≤ti.cks.length:=nle_of hb.1.2
    exact box_ok h hs hop (by intro h0;rw [h0] at h1;simp at h1;omega) (bldC_ok hti hb.2) hc
  ·exact hc.elim
 ·-- store
  rename_i t x y hop
  split at hc
  ·exact hc.elim
  rename_i ti hti
  cases hb:(nb (lenL (flat (evT G.tt st.s t y))) (lenL ti.cks)&&allL oneCell (flat (evT G.tt st.s t y))&&nlt 0 (lenL ti.cks)) with
  |false=>rw [hb] at hc;exact hc.elim
  |true=>
   rw [hb] at hc
   simp only [Bool.and_eq_true,lenL_eq] at hb
   have h1:=nb_of hb.1.1
   have h2:0+1≤ti.cks.length:=nle_of hb.2
   simp only [cond_true] at hc
   split at hc
   ·rename_i b off hx
    split at hc
    ·rename_i cs hob
     simp only [lenL_eq] at hc
     cases hb2:(nle off slcM&&nle (off+ti.cks.length) cs.length&&bldS (setL cs off (flat (evT G.tt st.s t y))) cs) with
     |false=>rw [hb2] at hc;exact hc.elim
     |true=>
      rw [hb2] at hc
      rw [Bool.and_eq_true,Bool.and_eq_true] at hb2
      exact store_box_ok htt h hs hop hti h1 (by omega) hb.1.2 hx hob hb2.1.1 (nle_of hb2.1.2) hb2.2 hc
    ·exact hc.elim
   ·rename_i e r i off hx
    split at hc
    ·rename_i e' d hob hm
     cases hb2:(nb e e'&&kindsAt G.tt e off ti.cks&&cksFit ti.cks (mapL (frz st.o 8) (flat (evT G.tt st.s t y)))&&isEmptyL (catL (ids st.o 8) (flat (evT G.tt st.s t y)))) with
     |false=>rw [hb2] at hc;exact hc.elim
     |true=>
      rw [hb2] at hc
      simp only [Bool.and_eq_true] at hb2
      have he:=nb_of hb2.1.1.1
      subst he
      exact store_row_ok htt h hs hop hti h1 (by omega) hb.1.2 hx hm hob hb2.1.1.2 hb2.1.2 hb2.2 hc
    ·exact hc.elim
   ·exact hc.elim
 ·-- buildSlice
  rename_i t len ps hop
  split at hc
  ·exact hc.elim
  rename_i ti hti
  split at hc
  ·exact hc.elim
  rename_i e he
  split at hc
  ·exact hc.elim
  rename_i ei hei
  cases hb:(nle len 1000&&nle ei.cks.length 1000&&nlt 0 (lenL ei.cks)) with
  |false=>rw [hb] at hc;exact hc.elim
  |true=>
   rw [hb] at hc
   simp only [Bool.and_eq_true,lenL_eq] at hb
   have h1:=nle_of hb.1.1
   have h2:=nle_of hb.1.2
   have h3:0+1≤ei.cks.length:=nle_of hb.2
   simp only [cond_true] at hc
   split at hc
   ·rename_i hfn
    split at hc
    ·exact hc.elim
    rename_i l hl
    split at hc
    ·cases hb:bldC ei l with
     |false=>rw [hb] at hc;exact hc.elim
     |true=>rw [hb] at hc;exact buildFnsL_ok htt h hs hop hti he hei h1 (by rw [hfn];rfl) hl (bldC_ok hei hb) hc
    ·exact buildFns_ok htt h hs hop hti he hei h1 (by rw [hfn];rfl) hl rfl hc
   split at hc
   ·exact hc.elim
   rename_i rows hrows
   refine buildSlice_ok htt h hs hop hti he hei h1 h2 (by omega) hrows rfl ?_
   cases ho:memO o.dst G.own with
   |true=>
    rw [ho] at hc
    simp only [cond_true] at hc
    cases hi:isEmptyL (catL (ids st.o 8) (catL (fun p=>flat (evT G.tt st.s e p.2)) ps.toList)) with
    |false=>rw [hi] at hc;exact hc.elim
    |true=>rw [hi] at hc;exact .inl ⟨rfl,.inl hc⟩
   |false=>
    rw [ho] at hc
    simp only [cond_false] at hc
    cases hi:isEmptyL (catL (ids st.o 8) (catL (fun p=>flat (evT G.tt st.s e p.2)) ps.toList)) with
    |false=>rw [hi] at hc;exact .inr hc
    |true=>rw [hi] at hc;exact .inl ⟨rfl,.inr hc⟩
 ·-- append
  rename_i as ts hop
  split at hc
  ·rename_i x y t1 t2 has hts
   split at hc
   ·rename_i i1 i2 h1 h2
    split at hc
    ·rename_i e he1
     split at hc
     ·rename_i e2 he2
      cases hb:nb e e2 with
      |false=>rw [hb] at hc;exact hc.elim
      |true=>
       rw [hb] at hc
       have:=nb_of hb
       subst this
       simp only [cond_true] at hc
       split at hc
       ·exact hc.elim
       rename_i ei hei
       cases hb2:(nle ei.bytes 1024&&nlt 0 (lenL ei.cks)) with
       |false=>rw [hb2] at hc;exact hc.elim
       |true=>
        rw [hb2] at hc
        simp only [Bool.and_eq_true] at hb2
        have hby:=nle_of hb2.1
        simp only [cond_true] at hc
        obtain ⟨e3,rows,news,hc,hR⟩:=Reads.of_src h.wr (evT_ok hs t2 y) hc
        cases hb3:nb e e3 with
        |false=>rw [hb3] at hc;exact hc.elim
        |true=>
         rw [hb3] at hc
         have:=nb_of hb3
         subst this
         simp only [cond_true] at hc
         exact appTo_ok htt hB h hs hop has hts h1 h2 he1 (.inl ((htt _ _ h2).slice he2).1) hei hby hR hc
     ·split at hc
      ·rename_i ei u hei hu
       cases hb:(isStr i2&&isU8 ei&&nle ei.bytes 1024) with
       |false=>rw [hb] at hc;exact hc.elim
       |true=>
        rw [hb] at hc
        simp only [Bool.and_eq_true] at hb
        simp only [cond_true] at hc
        have hv:=evT_ok hs t2 y
        rw [hu] at hv
        have hck:cksOf G.tt e=[.int .u8]:=by
         have h8:=hb.1.2
         unfold isU8 intOfTi at h8
         unfold cksOf;rw [hei];simp only
         split at h8
         ·rename_i h9
          split at h9
          ·rename_i hk;cases h9;exact hk
          ·cases h9
         ·cases h8
        generalize hy:a.eval y=vy at hv
        cases hv with
        |str b=>exact appTo_ok htt hB h hs hop has hts h1 h2 he1 (.inr ((htt _ _ h2).str hb.1.1)) hei (nle_of hb.2) (by rw [hy];exact Reads.of_str hck b) hc
      ·exact hc.elim
    ·exact hc.elim
   ·exact hc.elim
  ·exact hc.elim
 ·-- assign
  rename_i x hop
  cases hb:(memO o.dst G.own&&isNils x) with
  |false=>
   rw [hb] at hc
   exact pure_step htt h hs (by simpa using hc)
  |true=>
   rw [hb] at hc
   simp only [Bool.and_eq_true] at hb
   simp only [cond_true] at hc
   split at hc
   ·exact own_nil_ok h hs hop hb.2 hc
   ·exact hc.elim
 ·-- move
  rename_i t hop
  split at hc
  ·rename_i e r hown hl
   split at hc
   ·rename_i e' d wr hob
    cases hb:nb e e' with
    |false=>rw [hb] at hc;exact hc.elim
    |true=>rw [hb] at hc;exact dup_ok h hs hop hl hc
   ·exact hc.elim
  ·exact pure_step htt h hs hc
 ·-- build
  rename_i t ps hop
  cases hb:memO o.dst G.own with
  |false=>rw [hb] at hc;exact pure_step htt h hs (by simpa using hc)
  |true=>
   rw [hb] at hc
   simp only at hc
   split at hc
   ·rename_i ti hti
    cases hbb:(ti.agg&&nb ti.ar 0) with
    |false=>rw [hbb] at hc;exact hc.elim
    |true=>
     rw [hbb] at hc
     simp only at hc
     split at hc
     ·rename_i cs hcs
      exact ownBuild_ok htt h hs hop hti hbb hcs hc
     ·exact hc.elim
   ·exact hc.elim
 ·-- slice
  rename_i t tx lo hi mx hop
  split at hc
  ·rename_i e r hl
   split at hc
   ·rename_i hown
    split at hc
    ·rename_i y0
     split at hc
     ·rename_i ti ei e' d wr hti hei hob
      split at hc
      ·rename_i e0 he0
       cases hb:(nb e0 e&&nb e e'&&nle G.n0 r) with
       |false=>rw [hb] at hc;exact hc.elim
       |true=>
        rw [hb] at hc
        simp only [cond_true] at hc
        simp only [Bool.and_eq_true] at hb
        obtain ⟨⟨hb1,hb2⟩,hb3⟩:=hb
        obtain rfl:=nb_of hb1
        obtain rfl:=nb_of hb2
        obtain ⟨l,⟨hl0,hc⟩,hlo⟩:=optI_some hs hc
        refine rowSlice_ok htt h hs hop hti he0 hei (getO_live hob rfl) (by have:=hs tx;rw [hl] at this;exact this) (by rw [hB];exact nle_of hb3) hl0.1 hl0.2 hlo hc
      ·exact hc.elim
     ·exact hc.elim
    ·rename_i y0
     split at hc
     ·rename_i ti ei e' d hlv hti hei hob
      split at hc
      ·rename_i e0 he0
       cases hb:(nb e0 e&&nb e e'&&nle G.n0 r) with
       |false=>rw [hb] at hc;exact hc.elim
       |true=>
        rw [hb] at hc
        simp only [cond_true] at hc
        simp only [Bool.and_eq_true] at hb
        obtain ⟨⟨hb1,hb2⟩,hb3⟩:=hb
        obtain rfl:=nb_of hb1
        obtain rfl:=nb_of hb2
        obtain ⟨l,⟨hne,hl0,hc⟩,hlo⟩:=optI_some hs hc
        obtain ⟨hlo,_⟩|⟨y1,k1,hy1,ey1⟩:=hlo
        ·cases hlo
        ·cases hy1
         exact rowFront_ok htt h hs hop hti he0 hei (getO_live hob rfl) (by have:=hs tx;rw [hl] at this;exact this) (by rw [hB];exact nle_of hb3) hne.2 hl0.1 hl0.2 ey1 hlv hc
      ·exact hc.elim
     ·exact hc.elim
    ·exact hc.elim
   split at hc
   ·split at hc
    ·rename_i y0
     split at hc
     ·rename_i ti ei e' d wr hti hei hob
      split at hc
      ·rename_i e0 he0
       cases hb:(nb e0 e&&nb e e') with
       |false=>rw [hb] at hc;exact hc.elim
       |true=>
        rw [hb] at hc
        simp only [cond_true] at hc
        simp only [Bool.and_eq_true] at hb
        obtain ⟨hb1,hb2⟩:=hb
        obtain rfl:=nb_of hb1
        obtain rfl:=nb_of hb2
        obtain ⟨l,⟨hne,hl0,hc⟩,hlo⟩:=optI_some hs hc
        obtain ⟨hlo,_⟩|⟨y1,k1,hy1,ey1⟩:=hlo
        ·cases hlo
        ·cases hy1
         exact rowView_ok htt h hs hop hti he0 hei (getO_live hob rfl) (by have:=hs tx;rw [hl] at this;exact this) hne.2 hl0.1 hl0.2 ey1 hc
      ·exact hc.elim
     ·exact hc.elim
    ·exact hc.elim
   have h1:=h.hurt [r]
   have hs1:∀ t,VR G.tt E (hurtP G.tt E st.o w Pp [r]) (a.tmps.getD t undef) (look st.s t):=fun t=>(hs t).mono (fun _ _ h=>h) (fun _ _ h=>.inl h)
   have hst:=pure_step (st:=⟨st.s,hurtO [r] 0 st.o⟩) (K:=K) (Q:=Q) htt h1 hs1 (o:=o) hc
   refine Oper.wp_mono ?_ hst
   rintro a' w' ⟨st',E',Pp',v,pv,e1,e2,e3,e4,e5,e6,e7⟩
   exact ⟨st',E',Pp',v,pv,e1,e2,e3,e4,e5,fun hq ad v hv=>e6 hq ad v (hv.hurt [r]),fun ad v hv=>e7 ad v (.inl hv)⟩
  ·exact pure_step htt h hs hc
 ·-- makeSlice
  rename_i t x y hop
  split at hc
  ·rename_i ti hti
   split at hc
   ·rename_i e he
    split at hc
    ·rename_i ei hei
     split at hc
     ·rename_i k l k' c hx hy
      cases hb:(nle ei.bytes 1024&&nlt 0 (lenL ei.cks)) with
      |false=>rw [hb] at hc;exact hc.elim
      |true=>
       rw [hb] at hc
       simp only [Bool.and_eq_true,lenL_eq] at hb
       have h3:0+1≤ei.cks.length:=nle_of hb.2
       obtain ⟨q1,q2,hc⟩:=hc
       exact makeSlice_ok htt h hs hop hti he hei (nle_of hb.1) (by omega) hx hy q1 q2 hc
     ·exact hc.elim
    ·exact hc.elim
   ·exact hc.elim
  ·exact hc.elim
 ·-- makeMap
  rename_i t hop
  split at hc
  ·rename_i ti hti
   cases hb:isMap ti with
   |false=>rw [hb] at hc;exact hc.elim
   |true=>
    rw [hb] at hc
    simp only [cond_true] at hc
    split at hc
    ·split at hc
     ·split at hc
      ·exact makeMapF_ok h hs hop hc
      ·exact makeMap_ok h hs hop rfl hc
     ·exact hc.elim
    ·exact hc.elim
  ·exact hc.elim
 ·-- lookup
  rename_i t m k ok hop
  split at hc
  ·rename_i ti hti
   cases hb:isMap ti with
   |false=>rw [hb] at hc;exact hc.elim
   |true=>
    rw [hb] at hc
    simp only [cond_true] at hc
    split at hc
    ·rename_i ki ei hki hei
     split at hc
     ·rename_i kc hkc
      cases hb2:keyFits kc (evT G.tt st.s (ti.ar-1) k) with
      |false=>rw [hb2] at hc;exact hc.elim
      |true=>
       rw [hb2] at hc
       simp only [cond_true] at hc
       split at hc
       ·rename_i r hx
        split at hc
        ·rename_i cs hob
         split at hc
         ·rename_i kk k' n hn
          cases hb3:kEq kk k' with
          |false=>rw [hb3] at hc;exact hc.elim
          |true=>
           rw [hb3] at hc
           have q1:=kEq_of hb3
           subst q1
           simp only [cond_true] at hc
           split at hc
           ·rename_i p hg
            exact lookupF_ok htt h hs hop hti hb hki hei hkc hn hx hob hg hc
           ·rename_i hg
            refine lookupF_ok htt h hs hop hti hb hki hei hkc hn hx hob hg ?_
            cases hf:isFn ei with
            |false=>rw [hf] at hc;exact hc.elim
            |true=>rw [hf] at hc;exact ⟨rfl,hc⟩
           ·exact hc.elim
         ·exact hc.elim
        ·rename_i kc' e d hob
         cases hb3:(decide (kc=kc')&&nb e ti.el&&nlt 0 (lenL ei.cks)) with
         |false=>rw [hb3] at hc;exact hc.elim
         |true=>
          rw [hb3] at hc
          simp only [Bool.and_eq_true,decide_eq_true_eq] at hb3
          obtain ⟨⟨q1,q2⟩,q3⟩:=hb3
          have q2:=nb_of q2
          subst q1 q2
          simp only [cond_true] at hc
          split at hc
          ·rename_i hpl
           simp only [lkup1] at hc
           exact lookup_ok (p0:=aggOf ei (mcellsPV std d (keyD (evT G.tt st.s (ti.ar-1) k)) 0 ei.cks)) htt h hs hop hti hb hki hei hkc hb2 hx hob (fun _=>hc) (fun hno {_ _ _} hv=>plain_zero hpl hno hv) (fun _=>hc)
          ·exact lookup_ok htt h hs hop hti hb hki hei hkc hb2 hx hob hc.1 (fun _ {_ _ _} h=>h) hc.2
        ·exact hc.elim
       ·rename_i e d hx
        cases hb3:(decide (kc=CK.str)&&nb e ti.el&&nlt 0 (lenL ei.cks)) with
        |false=>rw [hb3] at hc;exact hc.elim
        |true=>
         rw [hb3] at hc
         simp only [Bool.and_eq_true,decide_eq_true_eq] at hb3
         obtain ⟨⟨q1,q2⟩,q3⟩:=hb3
         have q2:=nb_of q2
         subst q2
         simp only [cond_true] at hc
         split at hc
         ·rename_i hpl
          simp only [lkup1] at hc
          exact lookupD_ok (p0:=aggOf ei (mcellsPV std d (keyD (evT G.tt st.s (ti.ar-1) k)) 0 ei.cks)) htt h hs hop hti hb hki hei hkc hb2 hx q1 (fun _=>hc) (fun hno {_ _ _} hv=>plain_zero hpl hno hv) (fun _=>hc)
         ·exact lookupD_ok htt h hs hop hti hb hki hei hkc hb2 hx q1 hc.1 (fun _ {_ _ _} h=>h) hc.2
       ·exact hc.elim
     ·exact hc.elim
    ·exact hc.elim
  ·exact hc.elim
 ·rename_i t m k x hop
  exact mapPut_step htt h hs (.inl hop) hc
 ·rename_i t m k x hop
  exact mapPut_step htt h hs (.inr hop) hc
 ·-- delete
  rename_i as ts hop
  split at hc
  ·rename_i m k t tr has hts
   exact mapDel_step htt h hs hop has hts hc
  ·exact hc.elim
 ·-- clear
  rename_i as ts hop
  split at hc
  ·rename_i x t tr has hts
   split at hc
   ·rename_i ti e r i off hti hx
    split at hc
    ·rename_i e0 ei e' d he hei hob
     cases hb:(nb e0 e&&nb e e'&&nb off slcM&&nlt 0 (lenL ei.cks)) with
     |false=>rw [hb] at hc;exact hc.elim
     |true=>
      rw [hb] at hc
      simp only [Bool.and_eq_true] at hb
      obtain ⟨⟨⟨b1,b2⟩,b3⟩,b4⟩:=hb
      have b1:=nb_of b1;have b2:=nb_of b2;have b3:=nb_of b3
      have b4:=nle_of b4
      rw [lenL_eq] at b4
      subst b1;subst b2;subst b3
      exact clear_ok htt h hs hop has hts hti he hei (by omega) hx hob hc
    ·exact hc.elim
   ·exact hc.elim
  ·exact hc.elim
 ·-- range
  rename_i t m hop
  split at hc
  ·rename_i ti hti
   cases hb:isMap ti with
   |false=>rw [hb] at hc;exact hc.elim
   |true=>
    rw [hb] at hc
    simp only [cond_true] at hc
    split at hc
    ·rename_i r hx
     split at hc
     ·rename_i kc e d hob
      exact range_ok htt h hs hop hti hb hx hob hc
     ·exact hc.elim
    ·rename_i e d hx
     cases hb3:nb e ti.el with
     |false=>rw [hb3] at hc;exact hc.elim
     |true=>
      rw [hb3] at hc
      exact rangeD_ok htt h hs hop hti hb hx hc
    ·exact hc.elim
  ·exact hc.elim
 ·-- next
  rename_i it str hop
  cases str with
  |true=>exact hc.elim
  |false=>
   simp only [cond_false] at hc
   split at hc
   ·rename_i i hx
    split at hc
    ·rename_i m seen hoi
     split at hc
     ·rename_i kc e d hom
      split at hc
      ·rename_i ei hei
       cases hb:nlt 0 (lenL ei.cks) with
       |false=>rw [hb] at hc;exact hc.elim
       |true=>
        rw [hb] at hc
        exact next_ok htt h hs hop hx hoi hom hei hc.1 hc.2
      ·exact hc.elim
     ·exact hc.elim
    ·rename_i e d seen hoi
     split at hc
     ·rename_i ei hei
      cases hb:nlt 0 (lenL ei.cks) with
      |false=>rw [hb] at hc;exact hc.elim
      |true=>
       rw [hb] at hc
       exact nextD_ok htt h hs hop hx hoi hei hc.1 hc.2
     ·exact hc.elim
    ·exact hc.elim
   ·exact hc.elim
 ·-- entry
  rename_i it hop
  split at hc
  ·rename_i i hx
   split at hc
   ·rename_i m seen hoi
    split at hc
    ·rename_i kc e d hom
     split at hc
     ·rename_i ei hei
      cases hb:nlt 0 (lenL ei.cks) with
      |false=>rw [hb] at hc;exact hc.elim
      |true=>
       rw [hb] at hc
       exact entry_ok htt h hs hop hx hoi hom hei hc.1 hc.2.1 hc.2.2
     ·exact hc.elim
    ·exact hc.elim
   ·rename_i e d seen hoi
    split at hc
    ·rename_i ei hei
     cases hb:nlt 0 (lenL ei.cks) with
     |false=>rw [hb] at hc;exact hc.elim
     |true=>
      rw [hb] at hc
      exact entryD_ok htt h hs hop hx hoi hei hc.1 hc.2.1 hc.2.2
    ·exact hc.elim
   ·exact hc.elim
  ·exact hc.elim
 ·-- a call of a function
  rename_i f as ts hop
  have hrun:(execOp a.eval o).run P w=(callFunc f ⟨as.toList.map a.eval⟩).run P w:=by
   have:as.map a.eval=⟨as.toList.map a.eval⟩:=by apply Array.ext';simp
   simp [execOp,hop,resolve,invoke,Act.eval,this,Deferred.ofValue]
  split at hc
  ·rename_i hlk
   simp only [Bool.and_eq_true] at hlk
   rw [lenL_eq,appL_eq] at hc
   obtain ⟨E',h1,h2,h3⟩:=nilArgs_ok (a:=a) (st:=st) as.toList ts.toList h hs
   have hst:=call_step (st:=⟨st.s,st.o++nilObs G as.toList ts.toList⟩) (f:=f) (kp:=true) (Q:=Q) htt h1 (fun t=>(hs t).mono h2 (fun _ _ h=>h)) h3 hrun hc (fun hq=>by
    rw [hop] at hq
    simp only [quietOp] at hq
    cases hm:memL f G.keep with
    |true=>rw [hm] at hq;simp at hq
    |false=>rw [hm] at hlk;cases hlk.2)
   refine Oper.wp_mono ?_ hst
   rintro a' w' ⟨st',E2,Pp',v,pv,e1,e2,e3,e4,e5,e6,e7⟩
   refine ⟨st',E2,Pp',v,pv,e1,e2,e3,e4,e5,fun hq=> ?_,e7⟩
   rw [hop] at hq
   simp only [quietOp,hlk.2,cond_true] at hq
   cases hq
  have hv:=evArgsF_ok (G:=G) hs f as.toList ts.toList
  refine call_step (f:=f) (kp:=true) htt h hs hv hrun hc (fun hq=>by
   rw [hop] at hq
   simp only [quietOp] at hq
   cases hm:memL f G.keep with
   |true=>rw [hm] at hq;simp at hq
   |false=>
    rw [hm] at hq
    cases hm2:memL f G.live with
    |true=>rw [hm2] at hq;simp at hq
    |false=>exact ⟨rfl,rfl⟩)
 ·-- a call of a value
  rename_i f as ts _ hop
  split at hc
  ·rename_i g caps hf
   have hfv:=ev_ok hs f
   rw [hf] at hfv
   generalize hgf:a.eval f=vf at hfv
   cases hfv with
   |clos _ _ vs _ hu hcl=>
    have hquiet:quietOp (G.keep,G.live) o.op=true→memL g G.live=false∧memL (g-bndM) G.live=false:=by
     intro hq
     rw [hop] at hq
     cases f with
     |func g'=>rename_i hnf;exact absurd rfl (hnf g')
     |_=>
      simp only [quietOp] at hq
      have:=isEmptyL_eq hq
      simp [this,memL]
    split at hc
    ·rename_i hgb
     have hu:=hu.get hgb
     subst hu
     have hv:=(evArgs_ok (G:=G) hs as.toList ts.toList).append hcl
     rw [appL_eq] at hc
     refine call_step (f:=g) (kp:=false) htt h hs hv ?_ hc (fun hq=>⟨rfl,(hquiet hq).1⟩)
     have:as.map a.eval++⟨vs⟩=⟨as.toList.map a.eval++vs⟩:=by apply Array.ext';simp
     simp [execOp,hop,resolve,invoke,hgf,this,Deferred.ofValue]
    ·rename_i hgb
     have hu:=hu.getB hgb
     subst hu
     have hv:=hcl.append (evArgs_ok (G:=G) hs as.toList ts.toList)
     rw [appL_eq] at hc
     refine call_step (f:=g-bndM) (kp:=false) htt h hs hv ?_ hc (fun hq=>⟨rfl,(hquiet hq).2⟩)
     have:(⟨vs⟩:Array Value)++as.map a.eval=⟨vs++as.toList.map a.eval⟩:=by apply Array.ext';simp
     simp [execOp,hop,resolve,invoke,hgf,this,Deferred.ofValue]
  ·rename_i i hi
   refine absurd hi (hy f as ts i hop ?_)
   intro g e
   subst e
   simp only [ev] at hi
   cases hb:nlt g bndM<;>rw [hb] at hi<;>cases hi
  ·exact hc.elim
 ·exact pure_step htt h hs hc
theorem stepC_nodefer {o:Oper} {K:PV→St→Prop} (hc:stepC std G (FCx P G.tt) o st K):∀ c,o.op≠ .defer c:=by
 intro c h
 unfold stepC at hc
 rw [h] at hc
 simp [pureOp] at hc
theorem stepC_ok {r0:Option Nat} (htt:TtOk P G.tt) (hB:B.E0.length=G.n0) (h:SimW G.tt B E Pp st.o w) (hs:∀ t,VR G.tt E Pp (a.tmps.getD t undef) (look st.s t)) {o:Oper} {K:PV→St→Prop} (hc:stepC std G (FCx P G.tt) o st K) {Q:Exit→Act→World→Prop}:
 o.wpIn (fen r0) 0 P a w (Post G.tt B (G.keep,G.live) E Pp st.o w o a K) Q:=by
 by_cases hy:∃ f as ts i,o.op= .call { callee:=.value f,args:=as,argTypes:=ts }∧(∀ g,f≠ .func g)∧ev st.s f= .yld i
 ·obtain ⟨f,as,ts,i,hop,hnf,hi⟩:=hy
  have hc2:isEmptyL G.live=false∧yldC (FCx P G.tt) i (evArgs G st.s as.toList ts.toList) st K:=by
   unfold stepC at hc
   rw [hop] at hc
   cases f with
   |func g=>exact absurd rfl (hnf g)
   |_=>
    simp only [hi] at hc
    cases hl:isEmptyL G.live with
    |true=>rw [hl] at hc;exact hc.elim
    |false=>rw [hl] at hc;exact ⟨rfl,hc⟩
  exact yld_step h hs hop hnf hi hc2.1 hc2.2
 ·exact wp_in (stepC_nodefer hc) (stepC_wp htt hB h hs hc fun f as ts i h1 h2 h3=>hy ⟨f,as,ts,i,h1,h2,h3⟩)
end
end Go.VC
end

section
namespace Go.VC
open Go
section
variable {r:Option Nat} {P:Program} {ops:Array Oper} {D:Nat→Bool} {Q:Exit→Act→World→Prop}
def wpAnyJ (r:Option Nat) (P:Program) (ops:Array Oper) (D:Nat→Bool) (Q:Exit→Act→World→Prop) (J:World→Prop):Nat→Array Bool→Act→World→Prop
 |0,listed,a,w=>J w∧Region.ready .any ops listed=[]∧Q .normal a w
 |n+1,listed,a,w=>J w∧(Region.ready .any ops listed=[]→Q .normal a w)∧∀ i∈Region.ready .any ops listed,
  wpOpIn (fen r) 0 P ops Q i (fun a' w'=>if D i then wpAnyIn (fen r) 0 P .any ops Q n (listed.setIfInBounds i true) a' w' else wpAnyJ r P ops D Q J n (listed.setIfInBounds i true) a' w') a w
theorem wpAnyJ.holds {J:World→Prop} {n:Nat} {listed:Array Bool} {a:Act} {w:World} (h:wpAnyJ r P ops D Q J n listed a w):J w:=by
 cases n<;>exact h.1
theorem wpAnyJ.any {J:World→Prop}:∀ {n:Nat} {listed:Array Bool} {a:Act} {w:World},wpAnyJ r P ops D Q J n listed a w→wpAnyIn (fen r) 0 P .any ops Q n listed a w
 |0,_,_,_,h=>h.2
 |n+1,listed,a,w,h=>⟨h.2.1,fun i hi=>wpOpIn_mono (fun a' w' h'=>by
  cases hD:D i with
  |true=>rw [hD] at h';exact h'
  |false=>rw [hD] at h';exact wpAnyJ.any h') (h.2.2 i hi)⟩
theorem wpAnyJ.mono {J J':World→Prop} (hJ:∀ w,J w→J' w):∀ {n:Nat} {listed:Array Bool} {a:Act} {w:World},wpAnyJ r P ops D Q J n listed a w→wpAnyJ r P ops D Q J' n listed a w
 |0,_,_,_,h=>⟨hJ _ h.1,h.2⟩
 |n+1,listed,a,w,h=>⟨hJ _ h.1,h.2.1,fun i hi=>wpOpIn_mono (fun a' w' h'=>by
  cases hD:D i with
  |true=>rw [hD] at h';exact h'
  |false=>rw [hD] at h';exact wpAnyJ.mono hJ h') (h.2.2 i hi)⟩
def YieldsJ (P:Program) (ops:Array Oper) (J:World→Prop) (o:Oper) (v:Value) (a:Act):Prop:=
 (Region.wanted o (yielded ops a.tmps)=true∧∀ w,J w→(execOp a.eval o).run P w= .ok (.value v) w)∨(Region.wanted o (yielded ops a.tmps)=false∧v=undef)
theorem keep_op {j:Nat} {oi oj:Oper} {K:Act→World→Prop} {b:Act} {w:World} (hj:ops[j]? =some oj) (hnd:∀ c,oj.op≠ .defer c) (hd:∀ d,oj.dst=some d→d∉oi.looksAt ops) (hsi:∀ cs b,oi.op≠ .select cs b) (h:wpOpIn (fen r) 0 P ops Q j K b w):
 wpOpIn (fen r) 0 P ops Q j (fun b' w'=>K b' w'∧execOp b'.eval oi=execOp b.eval oi∧Region.wanted oi (yielded ops b'.tmps)=Region.wanted oi (yielded ops b.tmps)) b w:=by
 have key:∀ u,execOp (b.put oj.dst u).eval oi=execOp b.eval oi∧Region.wanted oi (yielded ops (b.put oj.dst u).tmps)=Region.wanted oi (yielded ops b.tmps):=
  fun u=>⟨execOp_put oi hsi b oj.dst u hd,wanted_put oi b oj.dst u hd⟩
 have key2:∀ (ds:List Deferred) u,execOp (({ b with defers:=ds }:Act).put oj.dst u).eval oi=execOp b.eval oi∧Region.wanted oi (yielded ops (({ b with defers:=ds }:Act).put oj.dst u).tmps)=Region.wanted oi (yielded ops b.tmps):=
  fun ds u=>⟨execOp_put oi hsi { b with defers:=ds } oj.dst u hd,wanted_put oi { b with defers:=ds } oj.dst u hd⟩
 unfold wpOpIn at*
 simp only [hj] at*
 split
 ·rename_i hw
  simp only [hw,if_true] at h
  refine ⟨h.1,?_⟩
  have h:=h.2
  rw [Oper.semAt_eq _ _ _ hnd] at h ⊢
  generalize (execOp b.eval oj).run P w=res at*
  cases res with
  |ok n w'=>
   cases n<;>simp only [Oper.uponIn] at h ⊢
   case value u=>exact ⟨h,key u⟩
   case skip=>exact ⟨h,key _⟩
   case defer d=>exact ⟨h,key2 _ _⟩
   case enter f args=>
    refine ⟨h.1,CallsIn.mono h.2 fun e w'' he=> ?_⟩
    cases e with
    |returned u=>exact ⟨he,key u⟩
    |panicked c=>exact he
    |outgrown=>exact he
   case row row args=>exact ⟨h.1,RowsIn.mono h.2 fun u w'' he=>⟨he,key u⟩⟩
   case round l f tmps assign body=>
    refine ⟨h.1,RoundIn.mono h.2 fun e w'' he=> ?_⟩
    cases e with
    |returned u=>exact ⟨he,key u⟩
    |panicked c=>exact he
    |outgrown=>exact he
  |halt x w'=>cases x<;>simp only [Oper.uponIn] at h ⊢;exact h
 ·rename_i hw
  simp only [hw] at h
  exact ⟨h.1,h.2,key _⟩
theorem put_op {j:Nat} {oi oj:Oper} {v:Value} {K:Act→World→Prop} {a:Act} {w:World} (hj:ops[j]? =some oj) (hnd:∀ c,oj.op≠ .defer c) (hap:oi.apart ops oj=true) (hsj:∀ cs b,oj.op≠ .select cs b) (hQ:∀ c a w,¬Q (.panic c) a w)
 (h:wpOpIn (fen r) 0 P ops Q j K (a.put oi.dst v) w):wpOpIn (fen r) 0 P ops Q j (fun a' w'=>K (a'.put oi.dst v) w') a w:=by
 obtain ⟨h1,h2,_⟩:=Oper.apart_spec hap
 have cm:∀ (b:Act) u,(b.put oi.dst v).put oj.dst u=(b.put oj.dst u).put oi.dst v:=fun b u=>Act.put_comm b v u h2
 unfold wpOpIn at*
 simp only [hj] at*
 rw [wanted_put oj a oi.dst v h1] at h
 split
 ·rename_i hw
  simp only [hw,if_true] at h
  refine ⟨fun _ _=>trivial,?_⟩
  have h:=h.2
  rw [Oper.semAt_eq _ _ _ hnd,execOp_put oj hsj a oi.dst v h1] at h
  rw [Oper.semAt_eq _ _ _ hnd]
  generalize hres:(execOp a.eval oj).run P w=res at*
  cases res with
  |ok n w'=>
   cases n<;>simp only [Oper.uponIn] at h ⊢
   case value u=>rw [← cm];exact h
   case skip=>rw [← cm];exact h
   case defer d=>rw [← cm,←Act.put_defers];exact h
   case enter f args=>
    refine ⟨h.1,CallsIn.mono h.2 fun e w'' he=> ?_⟩
    cases e with
    |returned u=>simp only at he ⊢;rw [cm] at he;exact he
    |panicked c=>exact (hQ _ _ _ he).elim
    |outgrown=>exact he
   case row row args=>exact ⟨h.1,RowsIn.mono h.2 fun u w'' he=>by rw [cm] at he;exact he⟩
   case round l f tmps assign body=>
    refine ⟨h.1,RoundIn.mono h.2 fun e w'' he=> ?_⟩
    cases e with
    |returned u=>simp only at he ⊢;rw [cm] at he;exact he
    |panicked c=>exact (hQ _ _ _ he).elim
    |outgrown=>exact he
  |halt x w'=>
   cases x<;>simp only [Oper.uponIn] at h ⊢
   case panic u=>exact (hQ _ _ _ h).elim
 ·rename_i hw
  simp only [hw] at h
  refine ⟨fun _ _=>trivial,?_⟩
  rw [← cm]
  exact h.2
theorem wpAnyJ_first {J:World→Prop} {i:Nat} {oi:Oper} {v:Value} (hi:ops[i]? =some oi) (hsel:∀ (j:Nat) (o:Oper) cs b,ops[j]? =some o→o.op≠ .select cs b) (hnd:∀ (j:Nat) (o:Oper) c,ops[j]? =some o→o.op≠ .defer c) (hQ:∀ c a w,¬Q (.panic c) a w) (hD:D i=false) (hself:∀ d,oi.dst=some d→d∉oi.looksAt ops) (Z:List Nat) (hZ2:∀ z∈Z,∀ oz,ops[z]? =some oz→∃ e∈oz.after,Region.binds .any e=true∧(e.on=i∨e.on∈Z)):
 ∀ (fuel:Nat) (listed:Array Bool) (a:Act) (w:World),
  (∀ z∈Z,listed.getD z false=false)→(∀ j oj,ops[j]? =some oj→j≠i→listed.getD j true=false→j∉Z→oi.apart ops oj=true∧D j=false)→
  i∈Region.ready .any ops listed→YieldsJ P ops J oi v a→J w→wpAnyJ r P ops D Q J fuel (listed.setIfInBounds i true) (a.put oi.dst v) w→wpAnyJ r P ops D Q J (fuel+1) listed a w:=by
 have this_one:∀ (fuel:Nat) (listed:Array Bool) (a:Act) (w:World),YieldsJ P ops J oi v a→J w→wpAnyJ r P ops D Q J fuel (listed.setIfInBounds i true) (a.put oi.dst v) w→
  wpOpIn (fen r) 0 P ops Q i (fun a' w'=>if D i then wpAnyIn (fen r) 0 P .any ops Q fuel (listed.setIfInBounds i true) a' w' else wpAnyJ r P ops D Q J fuel (listed.setIfInBounds i true) a' w') a w:=by
  intro fuel listed a w hy hJ H
  unfold wpOpIn
  simp only [hi,hD]
  rcases hy with ⟨hw,hv⟩|⟨hw,rfl⟩
  ·simp only [hw,if_true]
   refine ⟨fun _ _=>trivial,?_⟩
   rw [Oper.semAt_eq _ _ _ (fun c=>hnd i oi c hi),hv w hJ]
   exact H
  ·simp only [hw,Bool.false_eq_true,if_false];exact ⟨fun _ _=>trivial,H⟩
 intro fuel
 induction fuel with
 |zero=>
  intro listed a w _ _ hr hy hJ H
  refine ⟨hJ,fun h=>(by rw [h] at hr;cases hr),fun j hj=> ?_⟩
  by_cases hji:j=i
  ·subst hji;exact this_one 0 listed a w hy hJ H
  ·have:=ready_mono hj hji
   rw [H.2.1] at this
   cases this
 |succ fuel ih=>
  intro listed a w hZ1 hfree hr hy hJ H
  refine ⟨hJ,fun h=>(by rw [h] at hr;cases hr),fun j hj=> ?_⟩
  by_cases hji:j=i
  ·subst hji;exact this_one _ listed a w hy hJ H
  ·have h1:=H.2.2 j (ready_mono hj hji)
   obtain ⟨hjun,oj,hoj,hall⟩:=mem_ready.1 hj
   have hi0:listed.getD i false=false:=by
    have h0:=(mem_ready.1 hr).1
    rcases Nat.lt_or_ge i listed.size with h'|h'
    ·rw [Array.getD_eq_getD_getElem?] at h0 ⊢
     simp [h'] at h0 ⊢;exact h0
    ·rw [Array.getD_eq_getD_getElem?,Array.getElem?_eq_none h'];rfl
   have hnot:j∉Z:=fun hz=>by
    obtain ⟨e,he,hb,h0|h0⟩:=hZ2 j hz oj hoj
    ·have h1:=hall e he hb
     rw [h0,hi0] at h1;cases h1
    ·have h1:=hall e he hb
     rw [hZ1 _ h0] at h1;cases h1
   obtain ⟨hap,hDj⟩:=hfree j oj hoj hji hjun hnot
   simp only [hDj,Bool.false_eq_true,if_false] at h1
   obtain ⟨a1,a2,a3⟩:=Oper.apart_spec hap
   -- the other one first: this one's value is put behind it
   let oi':Oper:={ oi with op:=.move (.const v),guard:=none }
   have hap':oi'.apart ops oj=true:=by
    have hl:oi'.looksAt ops=[]:=rfl
    unfold Oper.apart
    simp only [hl]
    have hd':oi'.dst=oi.dst:=rfl
    rw [hd']
    cases hd:oi.dst with
    |none=>cases oj.dst<;>rfl
    |some d=>
     have b1:=a1 d hd
     have b2:=a2 d hd
     cases hjd:oj.dst with
     |none=>simp [b1]
     |some d'=>
      rw [hjd] at b2
      simp [b1]
      exact fun h=>b2 (by rw [h])
   have h2:=keep_op (oi:=oi) (b:=a.put oi.dst v) hoj (fun c=>hnd j oj c hoj) a3 (fun cs b=>hsel i oi cs b hi) h1
   have h3:=put_op (oi:=oi') hoj (fun c=>hnd j oj c hoj) hap' (fun cs b=>hsel j oj cs b hoj) hQ h2
   simp only [hDj,Bool.false_eq_true,if_false]
   refine wpOpIn_mono (fun a' w' h4=> ?_) h3
   obtain ⟨h5,h6,h7⟩:=h4
   have hfree':∀ k ok,ops[k]? =some ok→k≠i→(listed.setIfInBounds j true).getD k true=false→
    k∉Z→oi.apart ops ok=true∧D k=false:=fun k ok hk hki hun hno=>by
    refine hfree k ok hk hki ?_ hno
    by_cases hjk:j=k
    ·subst hjk;exact hjun
    ·rw [getD_set_ne true hjk] at hun;exact hun
   have e0:oi'.dst=oi.dst:=rfl
   rw [e0] at h5 h6 h7
   have hy2:YieldsJ P ops J oi v a':=by
    have e1:execOp a'.eval oi=execOp a.eval oi:=by
     rw [← execOp_put oi (fun cs b=>hsel i oi cs b hi) a' oi.dst v hself,h6,execOp_put oi (fun cs b=>hsel i oi cs b hi) a oi.dst v hself]
    have e2:Region.wanted oi (yielded ops a'.tmps)=Region.wanted oi (yielded ops a.tmps):=by
     rw [← wanted_put oi a' oi.dst v hself,h7,wanted_put oi a oi.dst v hself]
    unfold YieldsJ at*
    rw [e1,e2];exact hy
   rw [Array.setIfInBounds_comm _ _ (Ne.symm hji)] at h5
   have hZ1':∀ z∈Z,(listed.setIfInBounds j true).getD z false=false:=fun z hz=>by
    have hjz:j≠z:=fun e=>hnot (by rw [e];exact hz)
    rw [getD_set_ne false hjz];exact hZ1 z hz
   exact ih (listed.setIfInBounds j true) a' w' hZ1' hfree' (ready_mono hr (Ne.symm hji)) hy2 h5.holds h5
end
end Go.VC
end

section
namespace Go.VC
open Go
inductive Ex where
 |normal|exit (id:Nat)|ret
def exOk:Exit→Ex→Prop
 | .normal,.normal=>True
 | .exit i,.exit j=>i=j
 | .ret,.ret=>True
 |_,_=>False
def mkD (b:Nat):Deferred:={ target:=.collected b,args:= #[] }
def Mk (w:World) (d:List Deferred) (E':List RI) (objs':List Ob) (d':List Deferred) (w':World):Prop:=
 ∃ bs:List Nat,d'=bs.map mkD++d∧bs.Nodup∧∀ b∈bs,w.heap.size≤b∧b<w'.heap.size∧w'.heap[b]? =some (.deferred (some []))∧¬own E' objs' b
theorem Mk.none {w w':World} {d d':List Deferred} {E':List RI} {objs':List Ob} (h:d'=d):Mk w d E' objs' d' w':=⟨[],by simp [h],List.nodup_nil,fun b hb=>by simp at hb⟩
def Base.at (B:Base) (d:List Deferred):Base:={ B with d0:=d }
def Base.here (B:Base) (E:List RI) (Pp:Per) (objs:List Ob) (d:List Deferred) (w:World):Base:={ w0:=w,E0:=B.E0,P0:=Pp,own0:=own E objs,d0:=d }
theorem Sim.at {tt:TypeId→Option TI} {N:Nat} {B:Base} {E:List RI} {Pp:Per} {st:St} {a:Act} {w:World} (h:Sim tt N B E Pp st a w):Sim tt N (B.at a.defers) E Pp st a w:=
 ⟨h.wr,h.slots,h.size,rfl,h.pre,h.per,h.fr,h.pnew,h.fresh⟩
theorem Sim.here {tt:TypeId→Option TI} {N:Nat} {B:Base} {E:List RI} {Pp:Per} {st:St} {a:Act} {w:World} (h:Sim tt N B E Pp st a w):Sim tt N (B.here E Pp st.o a.defers w) E Pp st a w:=
 ⟨h.wr,h.slots,h.size,rfl,h.pre,fun _ _ h=>h,Fr.refl _ _,fun _ _ h=>.inl h,fun i o ri b h1 h2 h3 h4=>.inr ⟨i,o,ri,h1,h2,h3,h4⟩⟩
theorem Sim.back {tt:TypeId→Option TI} {N:Nat} {B:Base} {E E2:List RI} {Pp Pp2:Per} {st st2:St} {a a2:Act} {w w2:World} {d d2:List Deferred} (h:Sim tt N B E Pp st a w) (k:Sim tt N ((B.here E Pp st.o d w).at d2) E2 Pp2 st2 a2 w2):Sim tt N (B.at a2.defers) E2 Pp2 st2 a2 w2:=by
 have fr1:∀ b,own E st.o b→B.w0.heap.size≤b∨B.own0 b:=fun b ⟨i,o,ri,h1,h2,h3,h4⟩=>h.fresh i o ri b h1 h2 h3 h4
 refine ⟨k.wr,k.slots,k.size,rfl,k.pre,fun ad v hv=>k.per ad v (h.per ad v hv),?_,?_,?_⟩
 ·refine h.fr.trans k.fr (fun x hx ho=> ?_)
  have hx:x<B.w0.heap.size:=hx
  rcases fr1 x ho with h1|h1
  ·omega
  ·exact h1
 ·intro ad v hv
  rcases k.pnew ad v hv with h1|h1|h1
  ·exact h.pnew ad v h1
  ·exact .inr (.inl (Nat.le_trans h.fr.size h1))
  ·exact .inr (fr1 _ h1)
 ·intro i o ri b h1 h2 h3 h4
  rcases k.fresh i o ri b h1 h2 h3 h4 with h5|h5
  ·exact .inl (Nat.le_trans h.fr.size h5)
  ·exact fr1 _ h5
theorem Mk.trans {tt:TypeId→Option TI} {N:Nat} {B:Base} {E E2:List RI} {Pp Pp2:Per} {st st2:St} {a2:Act} {w0 w w2:World} {d0 d d2:List Deferred} (hsz:w0.heap.size≤w.heap.size) (m:Mk w0 d0 E st.o d w) (k:Sim tt N ((B.here E Pp st.o d w).at d2) E2 Pp2 st2 a2 w2) (m2:Mk w d E2 st2.o a2.defers w2):Mk w0 d0 E2 st2.o a2.defers w2:=by
 obtain ⟨bs,rfl,h2,h3⟩:=m
 obtain ⟨bs2,h4,h5,h6⟩:=m2
 refine ⟨bs2++bs,by simp [h4],?_,?_⟩
 ·rw [List.nodup_append]
  refine ⟨h5,h2,?_⟩
  intro x hx y hy e
  have:=(h6 x hx).1
  have:=(h3 y hy).2.1
  omega
 ·intro b hb
  rcases List.mem_append.1 hb with hb|hb
  ·obtain ⟨q1,q2,q3,q4⟩:=h6 b hb
   exact ⟨by omega,q2,q3,q4⟩
  ·obtain ⟨q1,q2,q3,q4⟩:=h3 b hb
   have hs:w.heap.size≤w2.heap.size:=k.fr.size
   refine ⟨q1,by omega,?_,?_⟩
   ·rw [k.fr.block b q2 q4];exact q3
   ·rintro ⟨i,o,ri,r1,r2,r3,r4⟩
    rcases k.fresh i o ri b r1 r2 r3 r4 with r5|r5
    ·have r5:w.heap.size≤b:=r5
     omega
    ·exact q4 r5
def PWp (P:Program) (tt:TypeId→Option TI) (N n0:Nat) (r:Option Nat) (c:Code) (st:St) (Q:Ex→St→Prop):Prop:=
 ∀ B E Pp a w,B.E0.length=n0→Sim tt N B E Pp st a w→c.wpIn (fen r) 0 P (fun e a' w'=>∃ ex st' E' Pp',exOk e ex∧Sim tt N (B.at a'.defers) E' Pp' st' a' w'∧Mk w a.defers E' st'.o a'.defers w'∧w.heap.size≤w'.heap.size∧Q ex st') a w
theorem PWp.mono {P:Program} {tt:TypeId→Option TI} {N n0:Nat} {r:Option Nat} {c:Code} {st:St} {Q Q':Ex→St→Prop} (h:PWp P tt N n0 r c st Q) (hq:∀ e s,Q e s→Q' e s):PWp P tt N n0 r c st Q':=by
 intro B E Pp a w hb hs
 exact wpIn_mono (h B E Pp a w hb hs) fun e a' w' ⟨ex,st',E',Pp',h1,h2,h3,h4,h5⟩=>⟨ex,st',E',Pp',h1,h2,h3,h4,hq _ _ h5⟩
def nthOp:List Oper→Nat→Option Oper
 |[],_=>none|x::_,0=>some x|_::l,n+1=>nthOp l n
theorem nthOp_eq (l:List Oper) (n:Nat):nthOp l n=l[n]? :=by
 induction l generalizing n with
 |nil=>simp [nthOp]
 |cons x xs ih=>cases n<;>simp [nthOp,ih]
def bEq:Bool→Bool→Bool|true,true=>true|false,false=>true|_,_=>false
def bNot:Bool→Bool|true=>false|false=>true
section
variable (A:Alg) (G:Cfg) (C:CallP)
def putK (d:Option Nat) (v:PV) (st:St) (K:St→Prop):Prop:=match d with
 |some d=>bif nlt d G.n then (match st with|⟨s,o⟩=>K ⟨(d,v)::s,o⟩) else False
 |none=>K st
def guarded (all:List Oper) (o:Oper) (st:St) (run:St→(PV→St→Prop)→Prop) (K:St→Prop):Prop:=match o.guard with
 |none=>run st fun v st'=>putK G o.dst v st' K
 |some (j,want)=>match nthOp all j with
  |none=>False
  |some oj=>match oj.dst with
   |none=>False
   |some dj=>match look st.s dj with
    | .bl b=>(match bEq b want with|true=>((run st fun v st'=>putK G o.dst v st' K))|false=>(putK G o.dst (.tup []) st K))
    | .bool b=>(b=want→run ⟨(dj,.bl want)::st.s,st.o⟩ fun v st'=>putK G o.dst v st' K)∧
     (b=bNot want→putK G o.dst (.tup []) ⟨(dj,.bl (bNot want))::st.s,st.o⟩ K)
    | .tup []=>putK G o.dst (.tup []) st K
    |_=>False
def runOps (all:List Oper):List Oper→St→(St→Prop)→Prop
 |[],st,Q=>Q st
 |o::os,st,Q=>guarded G all o st (fun st K=>stepC A G C o st K) fun st'=>runOps all os st' Q
def isBind (e:Edge):Bool:=match e.ground with
 | .textOnly _=>false
 | .gcOnly _=>false
 |_=>true
def maskE:List Edge→Nat
 |[]=>0
 |e::l=>bif isBind e then Nat.lor (Nat.shiftLeft 1 e.on) (maskE l) else maskE l
def prepR:Nat→List Oper→List (Nat×Nat×Oper)
 |_,[]=>[]
 |i,o::os=>(i,maskE o.after.toList,o)::prepR (i+1) os
def isIn (m L:Nat):Bool:=nb (Nat.land m L) m
def readyR (L:Nat):List (Nat×Nat×Oper)→List (Nat×Oper)
 |[]=>[]
 |(i,m,o)::r=>bif isIn m L then (i,o)::readyR L r else readyR L r
def dropR (i:Nat):List (Nat×Nat×Oper)→List (Nat×Nat×Oper)
 |[]=>[]
 |(j,m,o)::r=>bif nb j i then r else (j,m,o)::dropR i r
def isFlt:Op→Bool
 | .move _=>true
 | .assign _=>true
 | .pick _ _ _=>true
 | .load _ _=>true
 | .binOp _ _ _ _ _=>true
 | .unOp _ _ _=>true
 | .convert _ _ _=>true
 | .fieldAddr _ _ _=>true
 | .field _ _ _=>true
 | .indexAddr _ _ _=>true
 | .index _ _ _=>true
 | .build _ _=>true
 | .extract _ _=>true
 | .slice _ _ _ _ _=>true
 | .nilCheck _=>true
 | .makeFunc _ _ _=>true
 | .call { callee:=.builtin .len,.. }=>true
 | .call { callee:=.builtin .max,.. }=>true
 | .call { callee:=.builtin .min,.. }=>true
 |_=>false
def phased:List Edge→Bool
 |[]=>false
 |e::l=>match e.ground with
  | .phase=>true
  |_=>phased l
def isHard (o:Oper):Bool:=match o.dst with
 |some d=>memL d G.hard
 |none=>false
def isAddr:Op→Bool
 | .fieldAddr _ _ _=>true
 | .indexAddr _ _ _=>true
 | .move _=>true
 | .assign _=>true
 | .build _ _=>true
 | .extract _ _=>true
 | .binOp _ _ _ _ _=>true
 | .unOp _ _ _=>true
 | .convert _ _ _=>true
 |_=>false
def isFl (o:Oper):Bool:=bif phased o.after.toList&&bNot (isAddr o.op) then false else bif isHard G o then false else (isFlt o.op&&quietOp (G.keep,G.live) o.op)
theorem isFl_fltQ {G:Cfg} {o:Oper} (h:isFl G o=true):isFlt o.op=true∧quietOp (G.keep,G.live) o.op=true:=by
 unfold isFl at h
 cases hp:(phased o.after.toList&&bNot (isAddr o.op)) with
 |true=>rw [hp] at h;cases h
 |false=>
  cases hh:isHard G o with
  |true=>rw [hp,hh] at h;cases h
  |false=>rw [hp,hh] at h;simpa using h
theorem isFl_flt {G:Cfg} {o:Oper} (h:isFl G o=true):isFlt o.op=true:=(isFl_fltQ h).1
def firstR (L:Nat):List (Nat×Nat×Oper)→Option (Nat×Oper)
 |[]=>none
 |(i,m,o)::r=>bif isFl G o&&isIn m L then some (i,o) else firstR L r
def noMaps:List Ob→List Ob
 |[]=>[]
 | .map _ _ _::l=>.dead::noMaps l
 | .iter _ _::l=>.dead::noMaps l
 | .diter _ _ _::l=>.dead::noMaps l
 | .loop _ _ _ _ _ _::l=>.dead::noMaps l
 |o::l=>o::noMaps l
def deadO:List Ob→List Ob
 |[]=>[]
 |_::l=>.dead::deadO l
def viewO (o:List Ob):List Ob:=match G.pers with
 |true=>deadO o
 |false=>noMaps o
def quietG (o:Op):Bool:=match G.pers with
 |true=>true
 |false=>quietOp (G.keep,G.live) o
def allP (f:Nat→Oper→Prop):List (Nat×Oper)→Prop
 |[]=>True
 |[x]=>f x.1 x.2
 |x::l=>f x.1 x.2∧allP f l
def isNilR {α:Type}:List α→Bool
 |[]=>true
 |_::_=>false
def pickSt (ps:List Nat) (st:St):St:=match st with
 |⟨s,o⟩=>⟨pickS ps s,mapL (fun r=>pickO ps (getO o r)) ps⟩
def sameSt (n0:Nat) (s1 s2:St):Prop:=∃ s3,(s3=s2∨∃ ps,(nodupL ps&&upTo n0 0 ps)=true∧s3=pickSt ps s2)∧(∀ t,look s1.s t=look s3.s t)∧s1.o=s3.o
def anyR (all:List Oper):Nat→List (Nat×Nat×Oper)→Nat→St→(St→Prop)→Prop
 |0,rest,L,st,Q=>match readyR L rest with|[]=>Q st|_=>False
 |n+1,rest,L,st,Q=>match firstR G L rest with
  |some (i,o)=>guarded G all o st (fun st K=>pureOp A G.tt o.op o.type st.s (viewO G st.o) fun v=>K v st) fun st'=>anyR all n (dropR i rest) (Nat.lor L (Nat.shiftLeft 1 i)) st' Q
  |none=>match readyR L rest with
   |[]=>Q st
   |r::rs=>match G.mrg&&bNot (isNilR rs) with
    |true=>guarded G all r.2 st (fun st K=>stepC A G C r.2 st K) fun st'=>anyR all n (dropR r.1 rest) (Nat.lor L (Nat.shiftLeft 1 r.1)) st' fun s1=>
     allP (fun i o=>guarded G all o st (fun st K=>stepC A G C o st K) fun st'=>anyR all n (dropR i rest) (Nat.lor L (Nat.shiftLeft 1 i)) st' fun s2=>sameSt G.n0 s1 s2) rs∧Q s1
    |false=>allP (fun i o=>guarded G all o st (fun st K=>stepC A G C o st K) fun st'=>anyR all n (dropR i rest) (Nat.lor L (Nat.shiftLeft 1 i)) st' Q) (r::rs)
def linR (all:List Oper):List Nat→St→(St→Prop)→Prop
 |[],st,Q=>Q st
 |i::p,st,Q=>match nthOp all i with
  |none=>False
  |some o=>(match isFl G o with|true=>(guarded G all o st (fun st K=>pureOp A G.tt o.op o.type st.s (viewO G st.o) fun v=>K v st) fun st'=>linR all p st' Q)|false=>(guarded G all o st (fun st K=>stepC A G C o st K) fun st'=>linR all p st' Q))
def schGo:Nat→List (Nat×Nat×Oper)→Nat→List Nat→Bool
 |0,rest,L,p=>match readyR L rest,p with
  |[],[]=>true
  |_,_=>false
 |n+1,rest,L,p=>match firstR G L rest with
  |some (i,_)=>(match p with
   |j::p'=>nb i j&&schGo n (dropR i rest) (Nat.lor L (Nat.shiftLeft 1 i)) p'
   |[]=>false)
  |none=>match readyR L rest,p with
   |[],[]=>true
   |[(i,o)],j::p'=>nb i j&&(bif isFl G o then false else true)&&schGo n (dropR i rest) (Nat.lor L (Nat.shiftLeft 1 i)) p'
   |_,_=>false
def schOf:List (Nat×List Nat)→Nat→Option (List Nat)
 |[],_=>none
 |(k,p)::r,i=>bif nb k i then some p else schOf r i
def memE (i:Nat) (o:Oper):Bool:=anyL (fun e=>isBind e&&nb e.on i) o.after.toList
def isSel:Op→Bool
 | .select _ _=>true
 | .defer _=>true
 |_=>false
def behind (i:Nat):Nat→List Nat→List Oper→List Nat
 |_,acc,[]=>acc
 |k,acc,o::l=>behind i (k+1) (bif anyL (fun e=>isBind e&&(bif nb e.on i then true else memL e.on acc)) o.after.toList then k::acc else acc) l
def pairsOk (ops:Array Oper) (i:Nat) (oi:Oper) (Z:List Nat):Nat→List Oper→Bool
 |_,[]=>true
 |j,oj::l=>(bif nb i j then (match oi.dst with|some d=>bif memL d (oi.looksAt ops) then false else true|none=>true) else
  bif memL j Z then true else bif memE j oi then true else Oper.apart ops oi oj&&quietG G oj.op)&&pairsOk ops i oi Z (j+1) l
def drawOk (ops:Array Oper) (all:List Oper):Nat→List Oper→Bool
 |_,[]=>true
 |i,o::l=>(bif isSel o.op then false else bif isFl G o then pairsOk G ops i o (behind i 0 [] all) 0 all else true)&&drawOk ops all (i+1) l
def cutRows (s:Slots) (all:List Oper):List Oper→List Nat
 |[]=>[]
 |o::l=>match o.op with
  | .slice _ (.tmp t) _ _ _=>appL (movedRow s t all) (cutRows s all l)
  |_=>cutRows s all l
 where movedRow (s:Slots) (t:Nat):List Oper→List Nat
 |[]=>[]
 |o::l=>match o.dst,o.op with
  |some d,.move (.tmp u)=>bif nb d t then (match look s u with| .row _ r=>[r]|_=>[]) else movedRow s t l
  |_,_=>movedRow s t l
def setT (c:Operand) (b:Bool) (st:St):St:=match c with
 | .tmp t=>⟨(t,.bl b)::st.s,st.o⟩
 |_=>st
def regP (id:Nat) (ops:Array Oper) (d:Bool) (st:St) (Q:St→Prop):Prop:=match d with
 |false=>runOps A G C ops.toList ops.toList st Q
 |true=>match schOf G.sch id with
  |none=>((False→False)→drawOk G ops ops.toList 0 ops.toList=true)∧anyR A G C ops.toList (lenL ops.toList) (prepR 0 ops.toList) 0 ⟨st.s,hurtO (cutRows st.s ops.toList ops.toList) 0 st.o⟩ Q
  |some p=>((False→False)→(drawOk G ops ops.toList 0 ops.toList&&schGo G (lenL ops.toList) (prepR 0 ops.toList) 0 p)=true)∧linR A G C ops.toList p ⟨st.s,hurtO (cutRows st.s ops.toList ops.toList) 0 st.o⟩ Q
def pwp (LP:Code→St→(Ex→St→Prop)→Prop):Code→St→(Ex→St→Prop)→Prop
 | .skip,st,Q=>Q .normal st
 | .region id ops d,st,Q=>(match memL id G.cuts with
  |true=>LP (.region id ops d) st Q
  |false=>regP A G C id ops d st (Q .normal))
 | .seq x y,st,Q=>pwp LP x st fun e st'=>match e with| .normal=>pwp LP y st' Q| .exit i=>Q (.exit i) st'| .ret=>Q .ret st'
 | .cond c x y,st,Q=>match ev st.s c with
  | .bl true=>pwp LP x st Q
  | .bl false=>pwp LP y st Q
  | .bool t=>(t=true→pwp LP x (setT c true st) Q)∧(t=false→pwp LP y (setT c false st) Q)
  |_=>False
 | .block id c,st,Q=>pwp LP c st fun e st'=>match e with| .exit j=>(match nb j id with|true=>Q .normal st'|false=>Q (.exit j) st')| .normal=>Q .normal st'| .ret=>Q .ret st'
 | .exit id,st,Q=>Q (.exit id) st
 | .ret,st,Q=>Q .ret st
 | .loop c,st,Q=>LP (.loop c) st Q
 | .rangeFunc g ps c1 c2,st,Q=>LP (.rangeFunc g ps c1 c2) st Q
 |_,_,_=>False
def initS:Nat→List PV→Slots
 |_,[]=>[]
 |i,p::ps=>(i,p)::initS (i+1) ps
def resPV (st:St):List ResultVar→Option (List PV)
 |[]=>some []
 | .tmp t::r=>match resPV st r with|some l=>some (wk 8 (norm (look st.s t))::l)|none=>none
 | .cell t ty::r=>match look st.s t,G.tt ty,resPV st r with
  | .box b off,some ti,some l=>(match getO st.o b with
   | .box cs=>bif nle off slcM&&nle (off+lenL ti.cks) (lenL cs) then some (wk 8 (aggOf ti (takeL (lenL ti.cks) (dropL off cs)))::l) else none
   |_=>none)
  |_,_,_=>none
def resOf (st:St) (l:List ResultVar):Option PV:=match resPV G st l with
 |some [v]=>some v
 |some vs=>some (.tup vs)
 |none=>none
def retK (n0:Nat) (rs:List ResultVar) (st:St) (K:PV→List Ob→Prop):Prop:=match resOf G st rs with
 |some v=>K (frz st.o 8 v) (takeO n0 (hurtO (ids st.o 8 v) 0 st.o))
 |none=>False
 where takeO:Nat→List Ob→List Ob
 |0,_=>[]|_,[]=>[]|n+1,x::xs=>x::takeO n xs
def outPV (n0:Nat) (st:St):Nat→List PV→Option (List PV×List Nat)
 |_,[]=>some ([],[])
 |k,p::l=>match p with
  | .row e r=>(match getO st.o r with
   | .row e' _ true=>bif nb e e'&&nle n0 r then (match outPV n0 st (k+1) l with|some (ps,rs)=>some (.row e k::ps,r::rs)|none=>none) else none
   |_=>none)
  | .mp r=>(match getO st.o r with
   | .map _ _ _=>bif nle n0 r then (match outPV n0 st (k+1) l with|some (ps,rs)=>some (.mp k::ps,r::rs)|none=>none) else none
   |_=>none)
  |p=>bif isEmptyL (ids st.o 8 p) then (match outPV n0 st k l with|some (ps,rs)=>some (frz st.o 8 p::ps,rs)|none=>none) else none
def partsOf:PV→List PV×Bool
 | .tup cs=>(cs,true)
 |p=>([p],false)
def wholeOf (b:Bool) (ps:List PV):PV:=bif b then .tup ps else match ps with|[p]=>p|_=>.undef
def retOwn1 (n0:Nat) (rs:List ResultVar) (st:St) (K:PV→List Ob→Prop):Prop:=match resOf G st rs with
 |some v=>(match outPV n0 st 0 (partsOf v).1 with
  |some (ps,rs)=>bif nodupL rs then K (wholeOf (partsOf v).2 ps) (mapL (getO st.o) rs) else False
  |none=>False)
 |none=>False
def retOwnK (n0:Nat) (rs:List ResultVar) (st:St) (K:PV→List Ob→Prop):Prop:=match resOf G st rs with
 |some v=>retOwn1 G n0 rs (sinks (mpsAgg v) st) K
 |none=>False
theorem firstR_mem {L:Nat}:∀ {r:List (Nat×Nat×Oper)} {i:Nat} {o:Oper},firstR G L r=some (i,o)→isFl G o=true∧∃ m,(i,m,o)∈r
 |[],i,o,h=>by simp [firstR] at h
 |(k,m,x)::r,i,o,h=>by
  simp only [firstR] at h
  cases hf:(isFl G x&&isIn m L) with
  |true=>
   rw [hf] at h;simp at h
   obtain ⟨rfl,rfl⟩:=h
   simp only [Bool.and_eq_true] at hf
   exact ⟨hf.1,m,by simp⟩
  |false=>
   rw [hf] at h
   obtain ⟨h1,m',h2⟩:=firstR_mem h
   exact ⟨h1,m',by simp [h2]⟩
theorem readyR_mem {L:Nat}:∀ {r:List (Nat×Nat×Oper)} {i:Nat} {o:Oper},(i,o)∈readyR L r→∃ m,(i,m,o)∈r
 |[],i,o,h=>by simp [readyR] at h
 |(k,m,x)::r,i,o,h=>by
  simp only [readyR] at h
  cases hf:isIn m L with
  |true=>
   rw [hf] at h
   simp only [cond_true,List.mem_cons,Prod.mk.injEq] at h
   rcases h with ⟨rfl,rfl⟩|h
   ·exact ⟨m,by simp⟩
   ·obtain ⟨m',h⟩:=readyR_mem h;exact ⟨m',by simp [h]⟩
  |false=>
   rw [hf] at h
   obtain ⟨m',h⟩:=readyR_mem (by simpa using h);exact ⟨m',by simp [h]⟩
theorem dropR_mem {i:Nat}:∀ {r:List (Nat×Nat×Oper)} {x:Nat×Nat×Oper},x∈dropR i r→x∈r
 |[],x,h=>by simp [dropR] at h
 |(k,m,y)::r,x,h=>by
  simp only [dropR] at h
  cases hb:nb k i with
  |true=>rw [hb] at h;simp at h;simp [h]
  |false=>
   rw [hb] at h
   simp only [cond_false,List.mem_cons] at h
   rcases h with rfl|h
   ·simp
   ·simp [dropR_mem h]
theorem linR_eq {all:List Oper} {Q:St→Prop}:∀ (n:Nat) (rest:List (Nat×Nat×Oper)) (L:Nat) (p:List Nat) (st:St),(∀ i m o,(i,m,o)∈rest→nthOp all i=some o)→schGo G n rest L p=true→linR A G C all p st Q=anyR A G C all n rest L st Q
 |0,rest,L,p,st,hr,h=>by
  simp only [schGo] at h
  split at h
  ·rename_i h1
   simp only [anyR,h1,linR]
  ·simp at h
 |n+1,rest,L,p,st,hr,h=>by
  simp only [schGo] at h
  have hr':∀ k i m o,(i,m,o)∈dropR k rest→nthOp all i=some o:=fun k i m o hm=>hr i m o (dropR_mem hm)
  split at h
  ·rename_i i o hf
   split at h
   ·rename_i j p'
    simp only [Bool.and_eq_true] at h
    have:=nb_of h.1
    subst this
    obtain ⟨hfl,m,hm⟩:=firstR_mem G hf
    have ih:(fun st'=>linR A G C all p' st' Q)=fun st'=>anyR A G C all n (dropR i rest) (Nat.lor L (Nat.shiftLeft 1 i)) st' Q:=
     funext fun st'=>linR_eq n _ _ p' st' (hr' i) h.2
    simp only [linR,hr i m o hm,hfl,cond_true,anyR,hf]
    rw [ih]
   ·simp at h
  ·rename_i hf
   split at h
   ·rename_i h1
    simp only [anyR,hf,h1,linR]
   ·rename_i i o j p' h1
    simp only [Bool.and_eq_true] at h
    have:=nb_of h.1.1
    subst this
    obtain ⟨m,hm⟩:=readyR_mem (L:=L) (r:=rest) (i:=i) (o:=o) (by rw [h1];simp)
    have hfl:isFl G o=false:=by
     cases hx:isFl G o with
     |false=>rfl
     |true=>rw [hx] at h;simp at h
    have ih:(fun st'=>linR A G C all p' st' Q)=fun st'=>anyR A G C all n (dropR i rest) (Nat.lor L (Nat.shiftLeft 1 i)) st' Q:=
     funext fun st'=>linR_eq n _ _ p' st' (hr' i) h.2
    simp only [linR,hr i m o hm,hfl,cond_false,anyR,hf,h1,allP,isNilR,bNot,Bool.and_false]
    rw [ih]
   ·simp at h
end
section
variable {P:Program} {G:Cfg} {B:Base} {E:List RI} {Pp:Per} {w:World} {st:St} {a:Act}
theorem bEq_eq {a b:Bool}:bEq a b=true↔a=b:=by cases a<;>cases b<;>simp [bEq]
theorem bNot_eq (b:Bool):bNot b= !b:=by cases b<;>rfl
theorem put_get (a:Act) (d:Nat) (v:Value) (t:Nat) (hd:d<a.tmps.size):(a.put (some d) v).tmps.getD t undef=if d=t then v else a.tmps.getD t undef:=by
 simp only [Act.put,Array.getD_eq_getD_getElem?,Array.getElem?_setIfInBounds]
 split
 ·simp [hd]
 ·rfl
theorem put_sim {v:Value} {pv:PV} {E':List RI} {Pp':Per} {w':World} {s':Slots} {o':List Ob} {d:Option Nat} {K:St→Prop} (hn:a.tmps.size=G.n) (hd:a.defers=B.d0) (hv:VR G.tt E' Pp' v pv)
 (hs:∀ t,VR G.tt E' Pp' (a.tmps.getD t undef) (look s' t)) (hw:SimW G.tt B E' Pp' o' w') (hK:putK G d pv ⟨s',o'⟩ K):
 ∃ st'',Sim G.tt G.n B E' Pp' st'' (a.put d v) w'∧K st''∧st''.o=o':=by
 cases d with
 |none=>exact ⟨⟨s',o'⟩,SimW.sim (st:=⟨s',o'⟩) hw hs hn hd,hK,rfl⟩
 |some d=>
  simp only [putK] at hK
  cases hb:nlt d G.n with
  |false=>rw [hb] at hK;exact hK.elim
  |true=>
   rw [hb] at hK
   have hlt:d+1≤G.n:=nle_of hb
   refine ⟨⟨(d,pv)::s',o'⟩,SimW.sim (st:=⟨(d,pv)::s',o'⟩) hw ?_ (by simp [Act.put,hn]) hd,hK,rfl⟩
   intro t
   rw [put_get a d v t (by omega),look_cons]
   split
   ·exact hv
   ·exact hs t
theorem set_bool {d:Nat} {b c:Bool} (h:Sim G.tt G.n B E Pp st a w) (hl:look st.s d= .bool b) (hb:b=c):Sim G.tt G.n B E Pp ⟨(d,.bl c)::st.s,st.o⟩ a w:=by
 refine SimW.sim (st:=⟨(d,.bl c)::st.s,st.o⟩) h.toW ?_ h.size h.defers
 intro t
 rw [look_cons]
 split
 ·rename_i hdt
  subst hdt
  have:=h.slots d
  rw [hl] at this
  generalize a.tmps.getD d undef=v at*
  cases this
  subst hb
  exact .bl _
 ·exact h.slots t
theorem wanted_of {all:Array Oper} {o oj:Oper} {j dj:Nat} {want b:Bool} {p:PV} (hg:o.guard=some (j,want)) (hj:all[j]? =some oj) (hdj:oj.dst=some dj) (h:Sim G.tt G.n B E Pp st a w)
 (hl:look st.s dj=p) (hp:p= .bl b∨p= .bool b):Region.wanted o (yielded all a.tmps)=bEq b want:=by
 have hv:=h.slots dj
 rw [hl] at hv
 have hval:a.tmps[dj]? =some (.bool b):=by
  have:a.tmps.getD dj undef= .bool b:=by
   generalize a.tmps.getD dj undef=v at*
   rcases hp with rfl|rfl<;>cases hv<;>rfl
  rw [Array.getD_eq_getD_getElem?] at this
  cases hx:a.tmps[dj]? with
  |none=>rw [hx] at this;simp [undef] at this
  |some v=>rw [hx] at this;simp at this;rw [this]
 simp only [Region.wanted,hg,yielded,hj,Option.bind_some,hdj,hval]
 cases b<;>cases want<;>rfl
theorem wanted_undef {all:Array Oper} {o oj:Oper} {j dj:Nat} {want:Bool} (hg:o.guard=some (j,want)) (hj:all[j]? =some oj) (hdj:oj.dst=some dj) (h:Sim G.tt G.n B E Pp st a w)
 (hl:look st.s dj= .tup []):Region.wanted o (yielded all a.tmps)=false:=by
 have hv:=h.slots dj
 rw [hl] at hv
 have hval:a.tmps.getD dj undef= .tuple ⟨[]⟩:=by
  generalize a.tmps.getD dj undef=v at*
  cases hv with
  |tup vs _ hl=>cases hl;rfl
 rw [Array.getD_eq_getD_getElem?] at hval
 simp only [Region.wanted,hg,yielded,hj,Option.bind_some,hdj]
 cases hx:a.tmps[dj]? with
 |none=>rfl
 |some v=>rw [hx] at hval;simp at hval;rw [hval];cases want<;>rfl
theorem guarded_wp {r:Option Nat} (hB:B.E0.length=G.n0) {all:Array Oper} {o:Oper} {K:St→Prop} {run:St→(PV→St→Prop)→Prop} {next:Act→World→Prop} {Q:Exit→Act→World→Prop} {k:Nat} (hk:all[k]? =some o)
 (hrun:∀ st1,Sim G.tt G.n B E Pp st1 a w→st1.o=st.o→run st1 (fun v st'=>putK G o.dst v st' K)→Region.wanted o (yielded all a.tmps)=true→o.wpIn (fen r) 0 P a w next Q)
 (hskip:∀ st'',Sim G.tt G.n B E Pp st'' (a.put o.dst undef) w→K st''→Region.wanted o (yielded all a.tmps)=false→st''.o=st.o→next (a.put o.dst undef) w)
 (h:Sim G.tt G.n B E Pp st a w) (hg:guarded G all.toList o st run K):wpOpIn (fen r) 0 P all Q k next a w:=by
 unfold wpOpIn
 simp only [hk]
 have skip:∀ (st':St),Sim G.tt G.n B E Pp st' a w→st'.o=st.o→putK G o.dst (.tup []) st' K→Region.wanted o (yielded all a.tmps)=false→next (a.put o.dst undef) w:=by
  intro st' h' ho hc hw
  obtain ⟨st'',h1,h2,h3⟩:=put_sim (v:=undef) h'.size h'.defers (.tup [] [] .nil) h'.slots h'.toW hc
  exact hskip st'' h1 h2 hw (h3.trans ho)
 unfold guarded at hg
 split at hg
 ·rename_i hgd
  have hwt:Region.wanted o (yielded all a.tmps)=true:=by simp [Region.wanted,hgd]
  rw [if_pos hwt]
  exact hrun st h rfl hg hwt
 ·rename_i j want hgd
  split at hg
  ·exact hg.elim
  rename_i oj hj
  rw [nthOp_eq] at hj
  have hj':all[j]? =some oj:=by simpa using hj
  split at hg
  ·exact hg.elim
  rename_i dj hdj
  split at hg
  ·rename_i b hl
   have hwt:=wanted_of hgd hj' hdj h hl (.inl rfl)
   cases hb:bEq b want with
   |true=>rw [hb] at hg hwt;rw [if_pos hwt];exact hrun st h rfl hg hwt
   |false=>rw [hb] at hg hwt;rw [if_neg (by rw [hwt];simp)];exact ⟨fun _ _=>trivial,skip st h rfl hg hwt⟩
  ·rename_i b hl
   have hwt:=wanted_of hgd hj' hdj h hl (.inr rfl)
   cases hb:bEq b want with
   |true=>
    have hbe:=bEq_eq.1 hb
    rw [hb] at hwt
    rw [if_pos hwt]
    exact hrun _ (set_bool h hl hbe) rfl (hg.1 hbe) hwt
   |false=>
    have hbe:b=bNot want:=by rw [bNot_eq];cases b<;>cases want<;>simp_all [bEq]
    rw [hb] at hwt
    rw [if_neg (by rw [hwt];simp)]
    exact ⟨fun _ _=>trivial,skip _ (set_bool h hl hbe) rfl (hg.2 hbe) hwt⟩
  ·rename_i hl
   have hv:=h.slots dj
   rw [hl] at hv
   have hval:a.tmps.getD dj undef= .tuple ⟨[]⟩:=by
    generalize a.tmps.getD dj undef=v at*
    cases hv with
    |tup vs _ hl=>cases hl;rfl
   have hwt:Region.wanted o (yielded all a.tmps)=false:=by
    rw [Array.getD_eq_getD_getElem?] at hval
    simp only [Region.wanted,hgd,yielded,hj',Option.bind_some,hdj]
    cases hx:a.tmps[dj]? with
    |none=>rfl
    |some v=>rw [hx] at hval;simp at hval;rw [hval];cases want<;>rfl
   rw [if_neg (by rw [hwt];simp)]
   exact ⟨fun _ _=>trivial,skip st h rfl hg hwt⟩
  ·exact hg.elim
theorem runOps_ok {r:Option Nat} (htt:TtOk P G.tt) (hB:B.E0.length=G.n0) {all:Array Oper} {Q:St→Prop} {Q':Exit→Act→World→Prop} (hQ:∀ E Pp st a w,Sim G.tt G.n B E Pp st a w→Q st→Q' .normal a w):
 ∀ (l:List Oper) (k:Nat),all.toList.drop k=l→∀ (st:St) (E:List RI) (Pp:Per) (a:Act) (w:World),Sim G.tt G.n B E Pp st a w→runOps std G (FCx P G.tt) all.toList l st Q→
  wpOpsIn (fen r) 0 P all Q' (List.range' k l.length) a w:=by
 intro l
 induction l with
 |nil=>intro k _ st E Pp a w h hr;exact hQ _ _ _ _ _ h hr
 |cons o os ih=>
  intro k hk st E Pp a w h hr
  have hlt:k<all.toList.length:=by
   rcases Nat.lt_or_ge k all.toList.length with h'|h'
   ·exact h'
   ·rw [List.drop_eq_nil_of_le h'] at hk;simp at hk
  have hok:all[k]? =some o:=by
   rw [List.drop_eq_getElem_cons hlt] at hk
   simp only [List.cons.injEq] at hk
   rw [← hk.1]
   simp
  have hnext:all.toList.drop (k+1)=os:=by
   rw [List.drop_eq_getElem_cons hlt] at hk
   simp only [List.cons.injEq] at hk
   exact hk.2
  simp only [List.length_cons,List.range'_succ,wpOpsIn_cons]
  refine guarded_wp hB hok ?_ ?_ h hr
  ·intro st h _ hc _
   refine Oper.wpIn_mono ?_ (stepC_ok htt hB h.toW h.slots hc)
   rintro a' w' ⟨st',E',Pp',v,pv,rfl,hv,hs,hw,hK,_,_⟩
   obtain ⟨st'',h1,h2,_⟩:=put_sim h.size h.defers hv hs hw hK
   exact ih (k+1) hnext st'' E' Pp' _ w' h1 h2
  ·intro st'' h1 h2 _ _
   exact ih (k+1) hnext st'' E Pp _ w h1 h2
end
end Go.VC
end
