/- Part 2 of the common texts. -/
import Derived.CallsIn
import Derived.Laws.MakeOwn
import Derived.Lib.AppendStr
import Derived.Laws.AppendOwn
import Derived.Laws.IdiomRangeMap
import Derived.RangeFuncLeaves
import Derived.RangeFuncNested
import Derived.OrdersIn
import Derived.Test.YtflmompnagpjeaaGreatDoorPart1
set_option linter.all false
set_option maxRecDepth 100000
set_option maxHeartbeats 16000000
open Array renaming ext'→fL,filter→GV,filter_eq_empty_iff→CG,find?_toList→Ns,foldl_toList→vF,getD_eq_getD_getElem?→bO,getElem?_eq_getElem→du,getElem?_eq_none→cC,getElem?_setIfInBounds→jf,getElem?_setIfInBounds_ne→cE,getElem?_setIfInBounds_self_of_lt→cN,getElem?_toList→fW,length_toList→ey,range→JO,size_map→Cy,toList_inj→pZ,toList_map→PF,toList_modify→JY,toList_push→NB,toList_range→Nq,toList_zipIdx→JX
open Bool renaming and_eq_true→bw,and_false→iI,false_eq_true→cv
open Int renaming eq_ofNat_of_zero_le→Ij,toNat_natCast→ej
open List renaming all_eq_true→eF,any_eq_false→PE,append_assoc→bI,append_nil→cA,dropLast_concat_getLast→mX,drop_eq_getElem_cons→bF,drop_eq_nil_of_le→fo,eq_nil_of_length_eq_zero→bY,eraseIdx_sublist→JL,ext_getElem?→pD,find?_eq_none→eN,getD→cc,getElem?_append_left→bS,getElem?_append_right→cp,getElem?_drop→eM,getElem?_eq_getElem→bx,getElem?_eq_none→ca,getElem?_eq_some_iff→dx,getElem?_eraseIdx→rQ,getElem?_inj→PC,getElem?_map→cu,getElem?_modify→tf,getElem?_of_mem→fF,getElem?_range→nk,getElem?_set→PB,getElem?_set_ne→bU,getElem?_set_self→bZ,getElem?_take_of_lt→cK,getElem_mem→bu,length→iS,length_append→bt,length_cons→bM,length_drop→jO,length_eraseIdx→JV,length_map→bL,length_nil→bX,length_pos_iff→gx,length_set→fT,length_take→cJ,map_cons→bJ,mem_append→bG,mem_cons→bN,mem_flatMap→dp,mem_map→bP,mem_map_of_mem→Np,mem_of_getElem?→fi,nodup_append→cV,nodup_cons→cw,nodup_nil→n2,pairwise_iff_getElem→hJ,range→fb,replicate→eT,size_toArray→PA,take_of_length_le→db
open List.cons renaming injEq→gN
open Nat renaming add_assoc→eY,add_comm→nZ,add_mul→c9,add_zero→iq,div_add_mod→Cw,div_eq_of_lt→qX,div_lt_iff_lt_mul→s8,eq_zero_or_pos→wA,le_refl→cg,le_succ→pQ,le_trans→bQ,lor→je,lt_or_ge→bV,lt_trichotomy→zv,mod_eq_of_lt→qW,mod_lt→ET,mul_add_div→sq,mul_add_mod→so,mul_comm→gI,mul_le_mul→oS,mul_le_mul_right→cW,mul_one→pP,shiftLeft→ep,zero_add→dW
open Ne renaming symm→dy
open Option renaming bind_some→iy,getD_none→wW,getD_some→eR,map_eq_some_iff→p6,map_none→zw,map_some→cr
open Option.some renaming inj→iH,injEq→cz
open Prod.mk renaming injEq→gb
namespace Go.VC
section
variable [Inhabited pB]
open Go
variable {P:Program}{f:FuncId}
def kE(tt:TypeId->Option TI)(E:List RI)(Pp:fE)(objs:List Ob)(w:World)(K:PV->List Ob->Prop):Ending->World->Prop:=λe w'=>
 ∃v E' Pp' objs' pv,e= .returned v/\oR E E'/\(∀ad v,Pp ad v->Pp' ad v)/\
  WR tt E' Pp' objs' w'/\VR tt E' Pp' v pv/\K pv objs'/\Fr (own E objs) w w'/\JD (own E objs) w Pp Pp'/\lN (own E objs) w E' objs'
def mc(P:Program)(f:FuncId)(vals:List Value)(w:World)(R:Ending->World->Prop):Prop:=((callFunc f ⟨vals⟩).run P w= .ok (.enter f ⟨vals⟩) w/\Calls P f ⟨vals⟩ w R)\/∃v w',(callFunc f ⟨vals⟩).run P w= .ok (.value v) w'/\R (.returned v) w'
def mc.mono{vals:List Value}{w:World}{R b:Ending->World->Prop}(h:mc P f vals w R)(hr:∀e w',R e w'->b e w'):mc P f vals w b:=by
 rcases h with⟨h1,h2⟩|⟨v,w',h1,h2⟩
 ·exact .inl ⟨h1,h2.mono hr⟩
 ·exact .inr ⟨v,w',h1,hr _ _ h2⟩
def FC(P:Program)(tt:TypeId->Option TI)(f:FuncId)(objs:List Ob)(args:List PV)(K:PV->List Ob->Prop):Prop:=∀E Pp w vals,WR tt E Pp objs w->eJ tt E Pp vals args->mc P f vals w (kE tt E Pp objs w K)
def YC(P:Program)(tt:TypeId->Option TI)(objs:List Ob)(args:List PV)(K:PV->List Ob->Prop):Prop:=
 ∀E Pp w vals l rec,WR tt E Pp objs w->E[0]? =some (.loop l)->w.heap[l]? =some (.loop rec)->eJ tt E Pp vals args->
  vals.length=rec.params.size/\RoundIn Fence.wide 0 P l rec.fn ((rec.params.zip (⟨vals⟩:Array Value)).foldl (λtmps (t,a)=>tmps.setIfInBounds t a) rec.tmps) rec.assign rec.body w (kE tt E Pp objs w K)
def jT(P:Program)(tt:TypeId->Option TI):iZ:=λc objs args K=>match c with
 | .fn f=>FC P tt f objs args K
 | .j9=>YC P tt objs args K
def FC.mono{tt:TypeId->Option TI}{objs:List Ob}{args:List PV}{K b:PV->List Ob->Prop}(h:FC P tt f objs args K)(hk:∀v o,K v o->b v o):FC P tt f objs args b:=by intro E Pp w vals c d;exact(h E Pp w vals c d).mono λe w' ⟨v,E',Pp',objs',pv,h1,h2,h3,h4,h5,h6,h7,h8,g⟩=>⟨v,E',Pp',objs',pv,h1,h2,h3,h4,h5,hk _ _ h6,h7,h8,g⟩
section
variable {P:Program}{tt:TypeId->Option TI}{N:Nat}{B:jc}{E:List RI}{Pp:fE}{objs:List Ob}{w:World}{st:St}{a:Act}
def WR.nil{Pp':fE}(c:∀ad v,Pp' ad v->pc w ad=some v)(d:MV tt Pp'):WR tt [] Pp' [] w:=⟨rfl,c,λi o h=>yE h,λi j oi oj ri rj b h=>yE h,d⟩
def nr{b:Nat}(h:own [] [] b):False:=by obtain⟨i,o,ri,h,_⟩:=h;simp at h
def D9(b:WR tt E Pp objs w){F:List Nat}{ad:Addr}{v:Value}(h:gK tt E objs w Pp F ad v):pc w ad=some v:=by
 rcases h with h|⟨h,_⟩
 ·exact b.pi _ _ h
 ·exact gm h
def cL.called{Pp1 Pp':fE}{w':World}{c:List Ob}(h1:cL tt B E Pp1 c w)(m:∀ad v,Pp1 ad v->Pp' ad v)
 (g:Fr (own [] []) w w') (gR:∀ad v,Pp' ad v->pc w' ad=some v) (d:JD (own [] []) w Pp1 Pp'):cL tt B E Pp' c w':=by
 have j:∀k,k<w.heap.size->w'.heap[k]? =w.heap[k]? :=λk hk=>g.block k hk (λh=>nr h);refine⟨h1.wr.frame (λb hb=>j b (mF h1.wr hb)) m ?_ gR,h1.pre,λad v e=>m ad v (h1.rv ad v e),?_,?_,h1.fresh⟩
 ·intro ad v e;rcases d ad v e with h2|h2|h2
  ·exact .inl h2
  ·refine .inr (λn=>?_);have:=mF h1.wr n;omega
  ·exact(nr h2).elim
 ·exact h1.fr.trans g (λx _ h=>(nr h).elim)
 ·intro ad v e;rcases d ad v e with h2|h2|h2
  ·exact h1.jo ad v h2
  ·exact .inr (.inl (by have:=h1.fr.size;omega))
  ·exact(nr h2).elim
section
variable {α:Type}
def mD:List Nat->List α->List α->List α
 |[],l,xs=>l++xs
 |r::F,l,x::xs=>mD F (l.set r x) xs
 |_::_,l,[]=>l
def Ba:∀{F:List Nat}{n j r:Nat},F[j]? =some r->il n F j=r
 |[],n,j,r,h=>yE h
 |x::F,n,0,r,h=>by simp at h;exact h
 |x::F,n,j+1,r,h=>Ba (F:=F) (yU h)
def xM:∀{F:List Nat}{l xs:List α},F.length<=xs.length->(mD F l xs).length+F.length=l.length+xs.length
 |[],l,xs,_=>by simp[mD]
 |r::F,l,x::xs,h=>by have:=xM (F:=F) (l:=l.set r x) (xs:=xs) (yU h);simp only[mD,bM,fT]at*;omega
 |_::_,l,[],h=>yE h
def xL:∀{F:List Nat}{l xs:List α}{i:Nat},F.length<=xs.length->i<l.length->i∉F->(mD F l xs)[i]? =l[i]?
 |[],l,xs,i,_,b,_=>by simp[mD,bS b]
 |r::F,l,x::xs,i,h,b,c=>by simp only[bN,not_or]at c;show (mD F (l.set r x) xs)[i]? =_;rw[xL (yU h) (yU b) c.2,bU (dy c.1)]
 |_::_,l,[],i,h,_,_=>yE h
def Dt:∀{F:List Nat}{l xs:List α}{j:Nat}{x:α},F.Nodup->(∀r∈F,r<l.length)->F.length<=xs.length->xs[j]? =some x->(mD F l xs)[il l.length F j]? =some x
 |[],l,xs,j,x,_,_,_,b=>by show (l++xs)[l.length+j]? =_;rw[cp yO];simpa using b
 |r::F,l,y::xs,0,x,fR,c8,h,b=>by simp at b;subst b;rw[cw]at fR;show (mD F (l.set r y) xs)[r]? =_;rw[xL (yU h) (by simpa using c8 r yS) fR.1,bZ (c8 r yS)]
 |r::F,l,y::xs,j+1,x,fR,c8,h,b=>by rw[cw]at fR;show (mD F (l.set r y) xs)[il l.length F j]? =_;have:=Dt (F:=F) (l:=l.set r y) (xs:=xs) (j:=j) (x:=x) fR.2 (λr' hr=>by simpa using c8 r' (by simp[hr])) (yU h) (yU b);simpa using this
 |_::_,l,[],j,x,_,_,h,_=>yE h
def xN:∀{F:List Nat}{l xs:List α}{i:Nat}{x:α},(∀r∈F,r<l.length)->F.length<=xs.length->F.Nodup->(mD F l xs)[i]? =some x->
 (i<l.length/\i∉F/\l[i]? =some x)\/∃j,i=il l.length F j/\xs[j]? =some x
 |[],l,xs,i,x,_,_,_,h=>by
  rcases bV i l.length with b|b
  ·simp only[mD,bS b]at h;exact .inl ⟨b,yS,h⟩
  ·simp only[mD,cp b]at h;exact .inr ⟨i-l.length,by simp[il];omega,h⟩
 |r::F,l,y::xs,i,x,c8,h,fR,d=>by
  rw[cw]at fR;rcases xN (F:=F) (l:=l.set r y) (xs:=xs) (λr' hr=>by simpa using c8 r' (by simp[hr])) (yU h) fR.2 d with⟨h1,h2,h3⟩|⟨j,h1,h2⟩
  ·by_cases c:i=r
   ·subst c;rw[bZ (yU h1)]at h3;exact .inr ⟨0,rfl,yU h3⟩
   ·rw[bU (dy c)]at h3;exact .inl ⟨yU h1,by simp[c,h2],h3⟩
  ·exact .inr ⟨j+1,by simpa[il]using h1,yU h2⟩
 |_::_,l,[],i,x,_,h,_,_=>yE h
end
variable {F ps:List Nat}{i k r:Nat}{ri:RI}{o q:Ob}{w':World}{α:Type}{E' E2:List RI}{args:List PV}{vals:List Value}{K:PV->St->Prop}{l:List Ob}{Pp':fE}{G:ea}{f:FuncId}
def Hs:∀(F:List Nat)(l xs:List Ob),FL F l xs=mD F l xs
 |[],l,xs=>by simp[FL,mD,eX]
 |r::F,l,x::xs=>by simp only[FL,mD,fV];exact Hs F _ xs
 |_::_,l,[]=>rfl
def yZ(F:List Nat):∀(l:List Ob)(i:Nat),(ko F l)[i]? =(l[i]?).map λo=>match o with| .iter m s=>bif eI m F then .dead else .iter m s|o=>o
 |[],i=>by simp[ko]
 |o::l,i=>by cases o<;>cases i<;>simp[ko,yZ F l]
def jI(F:List Nat):∀(l:List Ob),(ko F l).length=l.length
 |[]=>rfl
 |o::l=>by cases o<;>simp[ko,jI F l]
def El(h:(ko F l)[i]? =some o)(hl:o.live=true):l[i]? =some o/\∀m s,o= .iter m s->m∉F:=by
 rw[yZ]at h;cases c:l[i]? with
 |none=>rw[c]at h;simp at h
 |some o'=>
  rw[c]at h;simp only[cr,cz]at h;cases o' with
  |iter m s=>
   simp only at h;cases hm:eI m F with
   |true=>rw[hm]at h;simp at h;subst h;simp[Ob.live]at hl
   |false=>rw[hm]at h;simp at h;subst h;refine⟨rfl,λm' s' e=>?_⟩;cases e;intro b;rw[(kW _ _).2 b]at hm;cases hm
  |_=>simp only at h;subst h;exact⟨rfl,λm s e=>yC e⟩
def qt(hk:ps[k]? =some r)(b:E[r]? =some ri):(ps.map λr=>E.getD r .row0)[k]? =some ri:=by simp[hk,cc,b]
def pb{x:RI}(hk:rS ps 0 i=some k)(c:E[i]? =some x):(ps.map λr=>E.getD r .row0)[k]? =some x:=by obtain⟨j,rfl,b⟩:=vc hk;rw[dW];exact qt b c
def KR(b:(cS (λr=>jG ps (ew objs r)) ps)[k]? =some q)(hl:q.live=true):∃r o',ps[k]? =some r/\objs[r]? =some o'/\o'.live=true/\q=jG ps o':=by
 rw[gG,cu]at b;cases d:ps[k]? with
 |none=>rw[d]at b;simp at b
 |some r=>
  rw[d]at b;simp only[cr,cz]at b;rw[rJ]at b;cases c:objs[r]? with
  |none=>simp only[cc,c,wW,jG]at b;subst b;simp[Ob.live]at hl
  |some o'=>simp only[cc,c,eR]at b;refine⟨r,o',rfl,c,?_,b.symm⟩;cases o'<;>first|rfl|(subst b;simp[jG,Ob.live]at hl)
def qq(c:WR tt E Pp objs w)(d:(cS (λr=>jG ps (ew objs r)) ps)[k]? =some q)(hl:q.live=true)(b:(ps.map λr=>E.getD r .row0)[k]? =some ri):
 ∃r o',ps[k]? =some r/\objs[r]? =some o'/\o'.live=true/\E[r]? =some ri:=by
 obtain⟨r,o',h1,h2,h3,h4⟩:=KR d hl;obtain⟨ri',h5,_⟩:=c.ob r o' h2 h3;have:=qt h1 h5;rw[b]at this;cases this;exact⟨r,o',h1,h2,h3,h5⟩
def WR.pick(g:WR tt E Pp objs w)(fR:ps.Nodup):WR tt (ps.map λr=>E.getD r .row0) Pp (cS (λr=>jG ps (ew objs r)) ps) w:=by
 refine⟨by simp[gG],g.pi,?_,?_,g.gl⟩
 ·intro k q A hl;obtain⟨r,o',h1,h2,h3,rfl⟩:=KR A hl;obtain⟨ri,h5,h6⟩:=g.ob r o' h2 h3;refine⟨ri,qt h1 h5,?_⟩;cases o' with
  |box cs=>
   cases ri<;>simp only[OR]at h6<;>simp only[jG,OR]
   ·obtain⟨vs,T,a1,a2,a3,a4⟩:=h6;exact⟨vs,T,a1,xU (λ_ _ _=>pb) a2,a3,a4.map (IU ps)⟩
   ·exact h6.imp λ_ a=>⟨a.1,xU (λ_ _ _=>pb) a.2.1,a.2.2⟩
  |row e d wr=>cases ri<;>exact h6
  |map kc e d=>cases ri<;>exact h6
  |diter e d seen=>cases ri<;>exact h6
  |iter m seen=>
   simp only[jG]at hl ⊢;cases y:rS ps 0 m with
   |none=>rw[y]at hl;simp[Ob.live]at hl
   |some k=>
    cases ri<;>simp only[OR]at h6<;>simp only[OR]
    obtain⟨z,borns,clock,J,a1,a2⟩:=h6;exact⟨z,borns,clock,J,pb y a1,a2⟩
  |loop n M c1 c2 s j=>
   cases ri<;>simp only[OR]at h6<;>simp only[jG,OR]
   obtain⟨r,a1,a2,a3⟩:=h6;exact⟨r,a1,a2,λt=>by rw[xW];exact tL (λ_ _ _=>pb) 8 _ _ (a3 t)⟩
  |dead=>simp[jG,Ob.live]at hl
 ·intro i j oi oj ri rj b D C c h v x p u;obtain⟨r,L,a1,a2,a3,a4⟩:=qq g D c v;obtain⟨r',o2,b1,b2,I,H⟩:=qq g C h x;have:=g.sep r r' L o2 ri rj b a2 b2 a3 I a4 H p u;subst this;have c:=(dx.1 a1).1;exact(PC c fR).1 (a1.trans b1.symm)
theorem OR.oq{f:Nat->Nat}(hf:∀(i:Nat) x,E[i]? =some x->E2[f i]? =some x)(hl:(oq f o).live=true)(h:OR tt E Pp w ri o):OR tt E2 Pp w ri (oq f o):=by
 cases o with
 |box cs=>
  cases ri<;>simp only[OR]at h<;>simp only[VC.oq,OR]
  ·obtain⟨vs,T,a1,a2,a3,a4⟩:=h;exact⟨vs,T,a1,tJ hf a2,a3,a4.map (KK f)⟩
  ·exact h.imp λ_ a=>⟨a.1,tJ hf a.2.1,a.2.2⟩
 |row e d wr=>cases ri<;>exact h
 |map kc e d=>cases ri<;>exact h
 |diter e d seen=>cases ri<;>exact h
 |iter m seen=>simp[VC.oq,Ob.live]at hl
 |loop n b c1 c2 s j=>
  cases ri<;>simp only[OR]at h<;>simp only[VC.oq,OR]
  obtain⟨r,a1,a2,a3⟩:=h;exact⟨r,a1,a2,λt=>by rw[Ap];exact wE hf 8 _ _ (a3 t)⟩
 |dead=>simp[VC.oq,Ob.live]at hl
def cL.back(h:cL tt B E Pp objs w)(fR:F.Nodup)(c8:∀r∈F,r<objs.length){J:fE}{o2:List Ob}(T:oR (F.map λr=>E.getD r .row0) E2)
 (hp:∀ad v,Pp ad v->J ad v) (y:WR tt E2 J o2 w') (ag:Fr (own (F.map λr=>E.getD r .row0) (cS (λr=>jG F (ew objs r)) F)) w w')
 (ak:JD (own (F.map λr=>E.getD r .row0) (cS (λr=>jG F (ew objs r)) F)) w Pp J) (hf:lN (own (F.map λr=>E.getD r .row0) (cS (λr=>jG F (ew objs r)) F)) w E2 o2):
 cL tt B (mD F E E2) J (FL F (ko F objs) (cS (oq (il (ch objs) F)) o2)) w'/\oR E (mD F E E2)/\∀(j:Nat) x,E2[j]? =some x->(mD F E E2)[il (ch objs) F j]? =some x:=by
 have hl:=h.wr.len;have ao:=y.len;rw[Hs,cI]
 have R:F.length<=E2.length:=by
  rcases bV E2.length F.length with h'|h'
  ·exfalso;have C:(F.map λr=>E.getD r .row0)[E2.length]? =some (E.getD F[E2.length] .row0):=by simp[h']
   rcases T _ _ C with h1|⟨_,_,_,_,_,_,h1⟩<;>(have:=cx h1;omega)
  ·exact h'
 have ah:∀r∈F,r<E.length:=λr hr=>by rw[hl];exact c8 r hr
 have d:∀(j:Nat) x,E2[j]? =some x->(mD F E E2)[il objs.length F j]? =some x:=by intro j x C;rw[<- hl];exact Dt fR ah R C
 have g:∀(i:Nat),i<E.length->i∉F->(mD F E E2)[i]? =E[i]? :=λi hi hn=>xL R hi hn
 have X:oR E (mD F E E2):=by
  intro i x C;have hi:=cx C;by_cases hm:i∈F
  ·obtain⟨k,hk⟩:=fF hm;have af:il objs.length F k=i:=Ba hk;rcases T k x (qt hk C)with h1|⟨b,n,c,n',c',rfl,h1⟩
   ·have:=d k x h1;rw[af]at this;exact .inl this
   ·have:=d k _ h1;rw[af]at this;exact .inr ⟨b,n,c,n',c',rfl,this⟩
  ·rw[g i hi hm];exact .inl C
 have S:∀b,own (F.map λr=>E.getD r .row0) (cS (λr=>jG F (ew objs r)) F) b->∃r o ri,r∈F/\objs[r]? =some o/\o.live=true/\E[r]? =some ri/\ri.cZ =some b:=by rintro b ⟨i,q,ri,h1,h2,h3,h4⟩;obtain⟨r,o',a1,a2,a3,a4⟩:=qq h.wr h1 h2 h3;exact⟨r,o',ri,fi a1,a2,a3,a4,h4⟩
 have V:∀b,own (F.map λr=>E.getD r .row0) (cS (λr=>jG F (ew objs r)) F) b->B.w0.heap.size<=b\/B.kI b:=by intro b hb;obtain⟨r,o,ri,_,h2,h3,h4,h5⟩:=S b hb;exact h.fresh r o ri b h2 h3 h4 h5
 have z:∀(i:Nat) o ri b,i∉F->objs[i]? =some o->o.live=true->E[i]? =some ri->ri.cZ =some b->b<w.heap.size/\¬own (F.map λr=>E.getD r .row0) (cS (λr=>jG F (ew objs r)) F) b:=by intro i o ri b hi h1 h2 h3 h4;refine⟨mF h.wr ⟨i,o,ri,h1,h2,h3,h4⟩,λhb=>?_⟩;obtain⟨r,o',ri',h5,h6,h7,h8,h9⟩:=S b hb;have:=h.wr.sep i r o o' ri ri' b h1 h6 h2 h7 h3 h8 h4 h9;subst this;exact hi h5
 have ai:F.length<=(cS (oq (il objs.length F)) o2).length:=by rw[fI,<-ao];exact R
 have am:∀r∈F,r<(ko F objs).length:=λr hr=>by rw[jI];exact c8 r hr
 have t:∀(i:Nat) o,(mD F (ko F objs) (cS (oq (il objs.length F)) o2))[i]? =some o->o.live=true->
  (i<objs.length/\i∉F/\objs[i]? =some o/\∀m s,o= .iter m s->m∉F)\/∃j o',i=il objs.length F j/\o2[j]? =some o'/\o'.live=true/\o=oq (il objs.length F) o':=by
  intro i o ho u;rcases xN am ai fR ho with⟨h1,h2,h3⟩|⟨j,h1,h2⟩
  ·rw[jI]at h1;obtain⟨h4,h5⟩:=El h3 u;exact .inl ⟨h1,h2,h4,h5⟩
  ·rw[jI]at h1;rw[gG,cu]at h2;cases C:o2[j]? with
   |none=>rw[C]at h2;simp at h2
   |some o'=>rw[C]at h2;simp only[cr,cz]at h2;refine .inr ⟨j,o',h1,C,?_,h2.symm⟩;cases o'<;>first|rfl|(subst h2;simp[oq,Ob.live]at u)
 refine⟨⟨⟨?_,y.pi,?_,?_,y.gl⟩,h.pre.trans X,λad v hv=>hp _ _ (h.rv ad v hv),?_,?_,?_⟩,X,d⟩
 ·have h1:=xM (F:=F) (l:=E) (xs:=E2) R;have h2:=xM (F:=F) (l:=ko F objs) (xs:=cS (oq (il objs.length F)) o2) ai;rw[jI,fI]at h2;omega
 ·intro i o ho u;rcases t i o ho u with⟨h1,h2,h3,h4⟩|⟨j,o',rfl,h2,h3,rfl⟩
  ·obtain⟨ri,I,Z⟩:=h.wr.ob i o h3 u;refine⟨ri,by rw[g i yO h2];exact I,OR.LN X ?_ hp ?_ ?_ Z⟩
   ·intro m s e x C;rw[g m (cx C) (h4 m s e)];exact C
   ·intro b hb;obtain⟨h5,h6⟩:=z i o ri b h2 h3 u I hb;exact ag.block b h5 h6
   ·intro b hb ad v hv he;obtain⟨h5,h6⟩:=z i o ri b h2 h3 u I hb;rcases ak ad v hv with h7|h7|h7
    ·exact h7
    ·omega
    ·rw[he]at h7;exact absurd h7 h6
  ·obtain⟨ri,I,Z⟩:=y.ob j o' h2 h3;exact⟨ri,d j ri I,OR.oq d u Z⟩
 ·intro i j oi oj ri rj b hi hj ac ab H D L Q;rcases t i oi hi ac with⟨h1,h2,h3,_⟩|⟨i',O,rfl,h2,h3,rfl⟩<;>rcases t j oj hj ab with⟨k1,U,W,_⟩|⟨j',M,rfl,U,W,rfl⟩
  ·rw[g i yO h2]at H;rw[g j yO U]at D;exact h.wr.sep i j oi oj ri rj b h3 W ac ab H D L Q
  ·rw[g i yO h2]at H;obtain⟨h5,h6⟩:=z i oi ri b h2 h3 ac H L;obtain⟨Y,A,_⟩:=y.ob j' M U W;have:=d j' Y A;rw[D]at this;cases this;rcases hf j' M rj b U W A Q with h7|h7
   ·omega
   ·exact absurd h7 h6
  ·rw[g j yO U]at D;obtain⟨h5,h6⟩:=z j oj rj b U W ab D Q;obtain⟨ri',p,_⟩:=y.ob i' O h2 h3;have:=d i' ri' p;rw[H]at this;cases this;rcases hf i' O ri b h2 h3 p L with h7|h7
   ·omega
   ·exact absurd h7 h6
  ·obtain⟨ri',p,_⟩:=y.ob i' O h2 h3;have e1:=d i' ri' p;rw[H]at e1;cases e1;obtain⟨Y,A,_⟩:=y.ob j' M U W;have e2:=d j' Y A;rw[D]at e2;cases e2;rw[y.sep i' j' O M ri rj b h2 U h3 W p A L Q]
 ·refine h.fr.trans ag (λx C an=>?_);rcases V x an with h1|h1
  ·omega
  ·exact h1
 ·intro ad v hv;rcases ak ad v hv with h1|h1|h1
  ·exact h.jo ad v h1
  ·exact .inr (.inl (bQ h.fr.size h1))
  ·exact .inr (V _ h1)
 ·intro i o ri b ho u hE hb;rcases t i o ho u with⟨h1,h2,h3,_⟩|⟨j,o',rfl,h2,h3,rfl⟩
  ·rw[g i yO h2]at hE;exact h.fresh i o ri b h3 u hE hb
  ·obtain⟨ri',p,_⟩:=y.ob j o' h2 h3;have:=d j ri' p;rw[hE]at this;cases this;rcases hf j o' ri b h2 h3 p hb with h7|h7
   ·exact .inl (bQ h.fr.size h7)
   ·exact V b h7
def F4(F:List Nat)(s:cU)(t:Nat):look (mM F objs s) t=look s t\/(look (mM F objs s) t=ng objs 8 (look s t)/\∀i∈ids objs 8 (look s t),i∈F)\/look (mM F objs s) t= .undef:=by
 induction s with
 |nil=>exact .inl rfl
 |cons x s c=>
  obtain⟨k,p⟩:=x;simp only[mM,look];cases nb k t with
  |false=>simpa using c
  |true=>
   simp only[cond_true];cases nX (λb=>(match ew objs b with| .box _=>uA b 8 p|_=>false)) F with
   |false=>exact .inl rfl
   |true=>
    cases hc:gE (λi=>eI i F) (ids objs 8 p)with
    |false=>exact .inr (.inr rfl)
    |true=>refine .inr (.inl ⟨rfl,λi d=>?_⟩);rw[ur,eF]at hc;exact(kW i F).1 (hc i d)
def tY(b:WR tt E Pp objs w){s:cU}(hs:∀t,VR tt E Pp (a.tmps.getD t undef) (look s t)):
 ∀t,VR tt E (gK tt E objs w Pp F) (a.tmps.getD t undef) (look (mM F objs s) t):=by
 intro t;rcases F4 (objs:=objs) F s t with h|⟨h,c⟩|h
 ·rw[h];exact(hs t).mono (λ_ _ h=>h) (λ_ _ h=>.inl h)
 ·rw[h];exact(sS b 8 _ _ (hs t) c).of_nil E
 ·rw[h];exact .undef _
def ju{l k:List α}{x:α}(h:(l++k)[i]? =some x):(i<l.length/\l[i]? =some x)\/∃j,i=l.length+j/\k[j]? =some x:=by
 rcases bV i l.length with b|b
 ·rw[bS b]at h;exact .inl ⟨b,h⟩
 ·rw[cp b]at h;exact .inr ⟨i-l.length,yO,h⟩
def fZ{l k:List α}{x:α}(h:l[i]? =some x):(l++k)[i]? =some x:=by
 rw[bS]
 ·exact h
 ·rcases bV i l.length with b|b
  ·exact b
  ·rw[ca b]at h;simp at h
def kU{l k:List α}{j:Nat}{x:α}(h:k[j]? =some x):(l++k)[l.length+j]? =some x:=by rw[cp yO];simpa using h
def OR.goes(b:ll o=true)(hl:o.live=true)(h:OR tt E Pp w ri o):OR tt E' Pp w ri o:=by
 cases o<;>simp[ll,Ob.live]at b hl
 ·cases ri<;>exact h
 ·cases ri<;>exact h
def Ec(h:gE ll l=true)(b:l[i]? =some o):ll o=true:=by rw[ur,eF]at h;exact h o (fi b)
def cL.Ls{Pp1:fE}{e objs':List Ob}(h:cL tt B E Pp' e w')(m:WR tt E' Pp' objs' w')(D:gE ll objs'=true)
 (u:∀b,own E e b->b<w.heap.size) (fh:B.w0.heap.size<=w.heap.size) (hf:lN (own [] []) w E' objs'):cL tt B (E++E') Pp' (e++objs') w':=by
 have hl:=h.wr.len
 have new:∀(j:Nat) o ri b,objs'[j]? =some o->o.live=true->E'[j]? =some ri->ri.cZ =some b->w.heap.size<=b:=by
  intro j o ri b h1 h2 h3 h4;rcases hf j o ri b h1 h2 h3 h4 with h5|h5
  ·exact h5
  ·exact(nr h5).elim
 refine⟨⟨by simp[hl,m.len],m.pi,?_,?_,m.gl⟩,h.pre.trans (.of λ_ _=>fZ),h.rv,h.fr,h.jo,?_⟩
 ·intro i o z g;rcases ju z with⟨_,h1⟩|⟨j,rfl,h1⟩
  ·obtain⟨ri,x,v⟩:=h.wr.ob i o h1 g;exact⟨ri,fZ x,OR.frame (λ_ _=>fZ) (λ_ _ h=>h) (λ_ _=>rfl) (λ_ _ _ _ h _=>h) v⟩
  ·obtain⟨ri,x,v⟩:=m.ob j o h1 g;exact⟨ri,by rw[<- hl];exact kU x,v.goes (Ec D h1) g⟩
 ·intro i j oi oj ri rj b H C s n c d p t;rcases ju H with⟨l1,h1⟩|⟨i',rfl,h1⟩<;>rcases ju C with⟨l2,h2⟩|⟨A,rfl,h2⟩
  ·rw[bS yO]at c d;exact h.wr.sep i j oi oj ri rj b h1 h2 s n c d p t
  ·rw[bS yO]at c;rw[<- hl,cp yO]at d;have:=u b ⟨i,oi,ri,h1,s,c,p⟩;have:=new A oj rj b h2 n (yU d) t;omega
  ·rw[bS yO]at d;rw[<- hl,cp yO]at c;have:=u b ⟨j,oj,rj,h2,n,d,t⟩;have:=new i' oi ri b h1 s (yU c) p;omega
  ·rw[<- hl,cp yO]at c d;have:=m.sep i' A oi oj ri rj b h1 h2 s n (yU c) (yU d) p t;omega
 ·intro i o ri b z g y hb;rcases ju z with⟨l1,h1⟩|⟨i',rfl,h1⟩
  ·rw[bS yO]at y;exact h.fresh i o ri b h1 g y hb
  ·rw[<- hl,cp yO]at y;exact .inl (bQ fh (new i' o ri b h1 g (yU y) hb))
def oF{ad:Addr}{v:Value}(h:gK tt E objs w Pp [] ad v):Pp ad v:=by
 rcases h with h|⟨_,i,b,_⟩
 ·exact h
 ·simp at b
def j6{l:List Nat}(h:eu l=true):l=[]:=by cases l<;>simp_all[eu]
def cL.kept{s ob:Ob}{more:List Ob}(h:cL tt B E Pp objs w)(Y:objs[r]? =some s)(Q:s.live=true)(hr:E[r]? =some ri)
 (n:WR tt (ri::E') Pp' (ob::more) w') (ab:ll ob=true) (hg:gE ll more=true) (hp:∀ad v,Pp ad v->Pp' ad v)
 (O:Fr (own [ri] [s]) w w') (U:JD (own [ri] [s]) w Pp Pp') (hf:lN (own [ri] [s]) w (ri::E') (ob::more)):cL tt B (E++E') Pp' (objs.set r ob++more) w':=by
 have hl:=h.wr.len
 have p:∀b,own [ri] [s] b->ri.cZ =some b:=by
  rintro b ⟨i,o,r',h1,h2,h3,h4⟩;cases i with
  |zero=>simp at h1 h3;subst h1 h3;exact h4
  |succ i=>simp at h1
 have D:∀b,ri.cZ =some b->B.w0.heap.size<=b\/B.kI b:=λb hb=>h.fresh r s ri b Y Q hr hb
 have ac:r<objs.length:=by
  rcases bV r objs.length with h'|h'
  ·exact h'
  ·rw[ca h']at Y;simp at Y
 have old:∀(j:Nat) o rj b,j≠r->objs[j]? =some o->o.live=true->E[j]? =some rj->rj.cZ =some b->b<w.heap.size/\ri.cZ ≠some b:=by intro j o rj b H h1 h2 h3 h4;exact⟨mF h.wr ⟨j,o,rj,h1,h2,h3,h4⟩,λh5=>H (h.wr.sep j r o s rj ri b h1 Y h2 Q h3 hr h4 h5)⟩
 have new:∀(j:Nat) o rj b,more[j]? =some o->o.live=true->E'[j]? =some rj->rj.cZ =some b->w.heap.size<=b\/ri.cZ =some b:=by
  intro j o rj b h1 h2 h3 h4;rcases hf (j+1) o rj b (yU h1) h2 (yU h3) h4 with h5|h5
  ·exact .inl h5
  ·exact .inr (p b h5)
 have g:∀(j:Nat) o,(objs.set r ob)[j]? =some o->(j=r/\o=ob)\/(j≠r/\objs[j]? =some o):=by
  intro j o H;by_cases L:j=r
  ·subst L;rw[bZ ac]at H;simp at H;exact .inl ⟨rfl,H.symm⟩
  ·rw[bU (dy L)]at H;exact .inr ⟨L,H⟩
 have S:=n.len;simp only[bM]at S;refine⟨⟨by simp[hl];omega,n.pi,?_,?_,n.gl⟩,h.pre.trans (.of λ_ _=>fZ),λad v V=>hp _ _ (h.rv ad v V),?_,?_,?_⟩
 ·intro i o T e;rcases ju T with⟨_,h1⟩|⟨j,rfl,h1⟩
  ·rcases g i o h1 with⟨rfl,rfl⟩|⟨m,h2⟩
   ·obtain⟨r',R,C⟩:=n.ob 0 o rfl e;simp at R;subst R;exact⟨ri,fZ hr,C.goes ab e⟩
   ·obtain⟨rj,A,C⟩:=h.wr.ob i o h2 e;refine⟨rj,fZ A,OR.frame (λ_ _=>fZ) hp ?_ ?_ C⟩
    ·intro b hb;obtain⟨h3,h4⟩:=old i o rj b m h2 e A hb;exact O.block b h3 (λh5=>h4 (p b h5))
    ·intro b hb ad v V he;obtain⟨h3,h4⟩:=old i o rj b m h2 e A hb;rcases U ad v V with h5|h5|h5
     ·exact h5
     ·omega
     ·exact absurd (p _ h5) (by rw[he];exact h4)
  ·obtain⟨rj,A,C⟩:=n.ob (j+1) o (yU h1) e;simp at A;refine⟨rj,?_,C.goes (Ec hg h1) e⟩;rw[fT,<-hl];exact kU A
 ·intro i j oi oj ri' rj b T H z y d c t u;rcases ju T with⟨l1,h1⟩|⟨i',rfl,h1⟩<;>rcases ju H with⟨l2,h2⟩|⟨X,rfl,h2⟩
  ·rw[fT]at l1 l2;rw[bS yO]at d c;rcases g i oi h1 with⟨rfl,rfl⟩|⟨m,h3⟩<;>rcases g j oj h2 with⟨rfl,rfl⟩|⟨W,h4⟩
   ·rfl
   ·rw[hr]at d;cases d;exact absurd t (old j oj rj b W h4 y c u).2
   ·rw[hr]at c;cases c;exact absurd u (old i oi ri' b m h3 z d t).2
   ·exact h.wr.sep i j oi oj ri' rj b h3 h4 z y d c t u
  ·rw[fT]at l1;rw[bS yO]at d;rw[fT,<-hl,cp yO]at c;have I:E'[X]? =some rj:=yU c;rcases g i oi h1 with⟨rfl,rfl⟩|⟨m,h3⟩
   ·rw[hr]at d;cases d;have:=n.sep 0 (X+1) oi oj ri rj b rfl (yU h2) z y rfl (yU I) t u;omega
   ·have h5:=old i oi ri' b m h3 z d t;rcases new X oj rj b h2 y I u with h6|h6
    ·omega
    ·exact absurd h6 h5.2
  ·rw[fT]at l2;rw[bS yO]at c;rw[fT,<-hl,cp yO]at d;have J:E'[i']? =some ri':=yU d;rcases g j oj h2 with⟨rfl,rfl⟩|⟨m,h3⟩
   ·rw[hr]at c;cases c;have:=n.sep (i'+1) 0 oi oj ri' ri b (yU h1) rfl z y (yU J) rfl t u;omega
   ·have h5:=old j oj rj b m h3 y c u;rcases new i' oi ri' b h1 z J t with h6|h6
    ·omega
    ·exact absurd h6 h5.2
  ·rw[fT,<-hl,cp yO]at d c;have:=n.sep (i'+1) (X+1) oi oj ri' rj b (yU h1) (yU h2) z y (yU d) (yU c) t u;omega
 ·refine h.fr.trans O (λx hx Z=>?_);rcases D x (p x Z)with h1|h1
  ·omega
  ·exact h1
 ·intro ad v V;rcases U ad v V with h1|h1|h1
  ·exact h.jo ad v h1
  ·exact .inr (.inl (bQ h.fr.size h1))
  ·exact .inr (D _ (p _ h1))
 ·intro i o ri' b T e M hb;rcases ju T with⟨l1,h1⟩|⟨i',rfl,h1⟩
  ·rw[fT]at l1;rw[bS yO]at M;rcases g i o h1 with⟨rfl,rfl⟩|⟨m,h3⟩
   ·rw[hr]at M;cases M;exact D b hb
   ·exact h.fresh i o ri' b h3 e M hb
  ·rw[fT,<-hl,cp yO]at M;rcases new i' o ri' b h1 e (yU M) hb with h4|h4
   ·exact .inl (bQ h.fr.size h4)
   ·exact D b h4
def BW(h:cL tt B E Pp objs w)(hs:∀t,VR tt E Pp (a.tmps.getD t undef) (look st.s t))(p:eJ tt E Pp vals args)(fR:F.Nodup)(c8:∀r∈F,r<objs.length):
 WR tt (F.map λr=>E.getD r .row0) Pp (cS (λr=>jG F (ew objs r)) F) w/\eJ tt (F.map λr=>E.getD r .row0) Pp vals (cS (jv F 8) args)/\
 ∀e w',kE tt (F.map λr=>E.getD r .row0) Pp (cS (λr=>jG F (ew objs r)) F) w (λv o'=>K (ql (il (ch objs) F) 8 v) ⟨st.s,FL F (ko F objs) (cS (oq (il (ch objs) F)) o')⟩) e w'->
  ∃v pv s' o' E' Pp',e= .returned v/\VR tt E' Pp' v pv/\(∀t,VR tt E' Pp' (a.tmps.getD t undef) (look s' t))/\cL tt B E' Pp' o' w'/\K pv ⟨s',o'⟩/\(∀ad v,Pp ad v->Pp' ad v)/\oR E E'/\s'=st.s:=by
 refine⟨h.wr.pick fR,xU (λ_ _ _=>pb) p,?_⟩;rintro e w' ⟨v,E2,n,o2,pv,rfl,b,c,g,m,hK,j,d,hf⟩;obtain⟨h1,h2,h3⟩:=cL.back h fR c8 b c g j d hf;exact⟨v,_,st.s,_,_,n,rfl,wE h3 8 _ _ m,λt=>(VR.fQ h2 c).1 (hs t),h1,hK,c,h2,rfl⟩
def qm:∀(n:Nat)(b seen:List Nat)(i:Nat),seen[0]? =some i->(reach objs n b seen)[0]? =some i
 |0,_,_,_,h=>h
 |_+1,[],_,_,h=>h
 |n+1,x::b,seen,i,h=>by
  simp only[reach];cases eI x seen with
  |true=>exact qm n _ _ _ h
  |false=>refine qm n _ _ _ ?_;rw[eX];exact fZ h
def FH(n:Nat)(i:Nat)(b:List Nat):(reach objs (n+1) (i::b) [])[0]? =some i:=by simp only[reach,eI,cond_false];exact qm n _ _ _ rfl
def MC{n:Nat}(h:gE (λr=>gZ r n) F=true):∀r∈F,r<n:=by rw[ur,eF]at h;exactλr hr=>dK (h r hr)
def Lh(h:cL tt B E Pp st.o w)(hs:∀t,VR tt E Pp (a.tmps.getD t undef) (look st.s t))(m:eJ tt E Pp vals args)
 (hc:DQ G (jT P tt) f args st K):
 mc P f vals w λe w'=>∃v pv s' o' E' Pp',e= .returned v/\VR tt E' Pp' v pv/\(∀t,VR tt E' Pp' (a.tmps.getD t undef) (look s' t))/\cL tt B E' Pp' o' w'/\K pv ⟨s',o'⟩/\(∀ad v,Pp ad v->Pp' ad v):=by
 have key:∀{b:fE}{c:List Ob}{as:List PV}{F:List Nat},cL tt B E b c w->(∀t,VR tt E b (a.tmps.getD t undef) (look st.s t))->eJ tt E b vals as->(∀ad v,Pp ad v->b ad v)->qz (jT P tt) (.fn f) as st.s c F K->
  mc P f vals w λe w'=>∃v pv s' o' E' Pp',e= .returned v/\VR tt E' Pp' v pv/\(∀t,VR tt E' Pp' (a.tmps.getD t undef) (look s' t))/\cL tt B E' Pp' o' w'/\K pv ⟨s',o'⟩/\(∀ad v,Pp ad v->Pp' ad v):=by
  intro b c as F h1 g j d hc;unfold qz at hc;cases hb:(jz F&&gE (λr=>gZ r (ch c)) F)with
  |false=>rw[hb]at hc;exact hc.elim
  |true=>rw[hb]at hc;simp only[bw,cI]at hb;have hl:=BW (K:=K) h1 g j (oy hb.1) (MC hb.2);refine(hc _ _ w vals hl.1 hl.2.1).mono λe w' n=>?_;obtain⟨v,pv,s',o',E',Pp',x,z,y,p,C,s,_⟩:=hl.2.2 e w' n;exact⟨v,pv,s',o',E',Pp',x,z,y,p,C,λad u hu=>s _ _ (d _ _ hu)⟩
 unfold DQ at hc;split at hc
 ·exact key h hs m (λ_ _ h=>h) hc
 ·exact key (h.mN (eV (sH 8) args)) (λt=>(hs t).mono (λ_ _ h=>h) (λ_ _ h=>.inl h)) (LM h.wr m (λi A=>A)) (λ_ _ h=>.inl h) hc
def Mp(hG:G.tt=tt)(h:cL tt B E Pp st.o w)(hs:∀t,VR tt E Pp (a.tmps.getD t undef) (look st.s t)){kp:Bool}(V:eJ tt E Pp vals args)
 (hc:uk G (jT P tt) kp f args st K):
 mc P f vals w λe w'=>∃v pv s' o' E' Pp',e= .returned v/\VR tt E' Pp' v pv/\(∀t,VR tt E' Pp' (a.tmps.getD t undef) (look s' t))/\cL tt B E' Pp' o' w'/\K pv ⟨s',o'⟩/\
  ((kp&&eI f G.dV)=false->eI f G.live=false->∀ad v,nY tt E Pp st.o w ad v->nY tt E' Pp' o' w' ad v)/\(∀ad v,Pp ad v->Pp' ad v):=by
 unfold uk at hc;cases L:eI f G.live with
 |true=>rw[L]at hc;refine(Lh (a:=a) h hs V hc).mono λe w'=>?_;rintro⟨v,pv,s',o',E',Pp',q1,q2,q3,q4,q5,q6⟩;exact⟨v,pv,s',o',E',Pp',q1,q2,q3,q4,q5,(λ_ hf=>nomatch hf),q6⟩
 |false=>
 rw[L]at hc;simp only at hc;cases hk:(kp&&eI f G.dV)with
 |true=>
  rw[hk]at hc;simp only[cond_true]at hc;split at hc
  ·rename_i e r rest;split at hc
   ·rename_i e' d X;cases hb:(nb e e'&&eu (eV (ids st.o 8) rest))with
    |false=>rw[hb]at hc;exact hc.elim
    |true=>
     rw[hb]at hc;simp only[bw]at hb;have he:=cR hb.1;subst he;have Y:=j6 hb.2;have Z:=cT X rfl;obtain⟨ri,A,z⟩:=h.wr.ob r _ Z rfl;cases V with
     |cons v0 _ vr _ ag H=>
      have s:=ua (n:=8) h.wr (F:=[]) H (λi C=>by rw[Y]at C;exact C)
      have ah:WR tt [ri] Pp [.row e d true] w:=by
       refine⟨rfl,h.wr.pi,?_,?_,h.wr.gl⟩
       ·intro i o C L;cases i with
        |zero=>simp at C;subst C;exact⟨ri,rfl,z.goes rfl rfl⟩
        |succ i=>simp at C
       ·intro i j oi oj ri rj b C hj;cases i<;>cases j<;>simp at C hj
        intros;rfl
      have ac:VR tt [ri] Pp v0 (.row e 0):=by
       cases ag with
       |row0 _ _ O=>rw[A]at O;cases O;exact .row0 _ _ rfl
       |row _ _ g o len cap O=>rw[A]at O;cases O;exact .row _ _ _ _ _ _ rfl
      refine(hc [ri] Pp w _ ah (.cons _ _ _ _ ac ((s.mono (λ_ _ h=>h) (λ_ _=>oF)).of_nil _))).mono ?_;rintro ee w' ⟨v,E',Pp',objs',pv,rfl,Q,I,p,aa,hK,y,U,m⟩;split at hK
      ·rename_i ob more;cases M:(ll ob&&gE ll more)with
       |false=>rw[M]at hK;exact hK.elim
       |true=>
        rw[M]at hK;simp only[bw]at M;cases E' with
        |nil=>rcases Q 0 _ rfl with W|⟨_,_,_,_,_,_,W⟩<;>simp at W
        |cons ri' E'=>
         have:ri'=ri:=by
          rcases Q 0 _ rfl with W|⟨b,n,c,n',c',e1,W⟩
          ·simp at W;exact W
          ·subst e1;cases z
         subst this;have hS:=cL.kept h Z rfl A p M.1 M.2 I y U m;refine⟨v,_,st.s,_,E++E',Pp',rfl,?_,?_,?_,hK,λhf=>yE hf,I⟩
         ·refine FG ?_ 8 pv v aa;intro i x R;cases i with
          |zero=>simp at R;subst R;exact fZ A
          |succ i=>simp at R;show (E++E')[ch st.o+i]? =some x;rw[cI,<-h.wr.len];exact kU R
         ·intro t;exact(hs t).mono (λ_ _=>fZ) I
         ·rw[eX,fV];exact hS
      ·exact hK.elim
   ·exact hc.elim
  ·exact hc.elim
 |false=>
  rw[hk]at hc;simp only[cond_false]at hc;have s:=ua (n:=8) h.wr (F:=eV (ids st.o 8) args) V (λi C=>C);have ae:WR tt [] (gK tt E st.o w Pp (eV (ids st.o 8) args)) [] w:=WR.nil (λad v V=>D9 h.wr V) (h.wr.SN λ_ _ V=>.inl V);refine(hc [] _ w vals ae s).mono ?_;rintro e w' ⟨v,E',Pp',objs',pv,rfl,_,I,p,H,hK,y,U,m⟩;have D:∀k,k<w.heap.size->w'.heap[k]? =w.heap[k]? :=λk hk=>y.block k hk (λh=>nr h);cases M:gE ll objs' with
  |false=>rw[M]at hK;exact hK.elim
  |true=>
   rw[M]at hK;simp only[cond_true]at hK;cases S:plain 8 pv with
   |true=>
    rw[S]at hK;refine⟨v,pv,st.s,st.o,E,Pp,rfl,KQ 8 _ _ S H,hs,?_,hK,?_,λ_ _ h=>h⟩
    ·refine cL.called h (λ_ _ h=>h) y ?_ (λ_ _ h=>.inl h);intro ad u hu;exact p.pi _ _ (I _ _ (.inl hu))
    ·intro _ _ ad u hu;simpa using hu.grow (E2:=[]) (objs2:=[]) h.wr.len (λ_ _ h=>h) D
   |false=>
    rw[S]at hK;simp only[cond_false]at hK;cases J:(eI f G.Uw&&ub G.tt pv objs')with
    |true=>
     rw[J]at hK;simp only at hK;rw[bw]at J;rw[hG]at J
     obtain⟨e,d,rfl,rfl,aj⟩:∃e d,pv= .row e 0/\objs'=[.row e d true]/\∀ck∈bR tt e,Gf ck=true:=by
      have h0:=J.2;unfold ub at h0;split at h0
      ·rename_i e e' d;rw[bw]at h0;have:=cR h0.1;subst this;exact⟨e,d,rfl,rfl,λck hm=>by have:=h0.2;rw[ur]at this;exact eF.1 this ck hm⟩
      ·cases h0
     have gR:∀ad u,Pp ad u->pc w' ad=some u:=λad u hu=>p.pi _ _ (I _ _ (.inl hu));have h2:cL tt B E Pp st.o w':=cL.called h (λ_ _ h=>h) y gR (λ_ _ h=>.inl h)
     have af:WR tt E' Pp [.row e d true] w':=by
      refine⟨p.len,gR,?_,p.sep,h.wr.gl⟩;intro i o X L;obtain⟨ri,A,z⟩:=p.ob i o X L;refine⟨ri,A,?_⟩;cases i with
      |succ i=>simp at X
      |zero=>
       simp at X;subst X;cases ri with
       |row0=>exact z
       |row g o len cap=>obtain⟨us,T,rows,a1,a2,a3,a4,a5,a6,a7,a8⟩:=z;refine⟨us,T,rows,a1,a2,a3,a4,a5,?_,λ_=>λad u hu=>a7 rfl ad u (I _ _ (.inl hu)),λh=>yC h⟩;intro i row C;obtain⟨b1,b2⟩:=a6 i row C;refine⟨b1,λj x ck hj hk=>?_⟩;obtain⟨u,c1,c2⟩:=b2 j x ck hj hk;refine⟨u,c1,?_⟩;have:=aj ck (fi hk);cases c2<;>simp[Gf]at this<;>constructor
       |_=>cases z
     have h3:=cL.Ls (w:=w) (Pp1:=Pp) h2 af M (λb hb=>mF h.wr hb) h.fr.size m
     have ab:VR tt E' Pp v (.row e 0):=by
      cases H with
      |row0 _ _ O=>exact .row0 _ _ O
      |row _ _ g o len cap O=>exact .row _ _ _ _ _ _ O
     refine⟨v,_,st.s,_,E++E',Pp,rfl,?_,λt=>(hs t).mono (λ_ _=>fZ) (λ_ _ h=>h),?_,hK,?_,λ_ _ h=>h⟩
     ·refine FG ?_ 8 _ v ab;intro i x R;show (E++E')[ch st.o+i]? =some x;rw[cI,<-h.wr.len];exact kU R
     ·rw[eX];exact h3
     ·intro _ _ ad u hu;rw[eX];exact hu.grow h.wr.len (λ_ _ h=>h) D
    |false=>
    rw[J]at hK;simp only at hK;have h1:=h.mN (eV (ids st.o 8) args);have h2:=cL.called h1 I y p.pi U;have h3:=cL.Ls (w:=w) (Pp1:=Pp') h2 p M (λb hb=>mF h1.wr hb) h.fr.size m;refine⟨v,_,_,_,E++E',Pp',rfl,?_,?_,?_,hK,?_,λad u hu=>I _ _ (.inl hu)⟩
    ·refine FG ?_ 8 pv v H;intro i x R;show (E++E')[ch st.o+i]? =some x;rw[cI,<-h.wr.len];exact kU R
    ·intro t;exact(tY h.wr hs t).mono (λ_ _=>fZ) I
    ·rw[eX];exact h3
    ·intro _ _ ad u hu;rw[eX];exact(hu.mN _).grow h1.wr.len I D
end
end
section
variable [Inhabited pB]
open Go
section
variable {P:Program}{tt:TypeId->Option TI}{N:Nat}{B:jc}{E:List RI}{Pp:fE}{objs:List Ob}{w:World}{st:St}{a:Act}{dV:List FuncId×List FuncId}
variable {o:Oper}{t e:TypeId}{ti f:TI}{K:PV->St->Prop}{Q:Exit->Act->World->Prop}{len j n i s p r:Nat}{x y:Operand}{ps:Array (Nat×Operand)}{vs us:List Value}{F:List Nat}{d:D}{rows:List (List D)}{l:List PV}
def B2{cs:List CK}{ps:List PV}(h:iG cs ps=true)(k:eJ tt E Pp vs ps):cs.length=ps.length/\
 ∀(j:Nat) c v d,cs[j]? =some c->vs[j]? =some v->(cS qf ps)[j]? =some d->RD tt Pp c v d:=by
 induction cs generalizing vs ps with
 |nil=>cases ps with
  |nil=>exact⟨rfl,λj c v d h=>yE h⟩
  |cons=>simp[iG]at h
 |cons c cs q=>cases ps with
  |nil=>simp[iG]at h
  |cons p ps=>
   simp only[iG,bw]at h;cases k with
   |cons v _ vs _ h1 h2=>
    obtain⟨hl,u⟩:=q h.2 h2;refine⟨by simp[hl],?_⟩;intro j z m d hc b g;cases j with
    |zero=>simp[cS]at hc b g;subst hc b g;exact Gg h.1 h1
    |succ j=>exact u j z m d (yU hc) (yU b) (by simpa[cS]using g)
def Ee(c:WR tt E Pp objs w){ps:List PV}(g:eJ tt E Pp vs ps)(h:eu (eV (ids objs 8) ps)=true):eJ tt E Pp vs (cS (ng objs 8) ps):=by have k:=j6 h;exact((ua (n:=8) c (F:=[]) g (λi b=>by rw[k]at b;exact b)).mono (λ_ _ h=>h) (λ_ _=>oF)).of_nil E
def ig(b:i<n)(c:j<s):i*s+j<n*s:=by have:(i+1)*s<=n*s:=cW _ b;rw[c9]at this;omega
def MA{k l:Nat}(b:j<s)(hl:l<s)(h:i*s+j=k*s+l):i=k/\j=l:=by
 have h1:(i*s+j)/s=i:=by rw[gI,sq yO];simp[qX b]
 have h2:(k*s+l)/s=k:=by rw[gI,sq yO];simp[qX hl]
 have h3:i=k:=by rw[<- h1,<-h2,h]
 subst h3;exact⟨rfl,yO⟩
def jP(h:p+us.length<=vs.length):(vs.take p++us++vs.drop (p+us.length))[j]? =if p<=j/\j<p+us.length then us[j-p]? else vs[j]? :=by
 rw[bI];by_cases h1:j<p
 ·rw[bS yQ,if_neg yO,cK h1]
 ·rw[cp yQ];have c8:(vs.take p).length=p:=yQ;rw[c8];by_cases h2:j<p+us.length
  ·rw[bS yO,if_pos yO]
  ·rw[cp yO,if_neg yO,eM]
   congr 1;omega
def C4{vs us:List D}(h:p+us.length<=vs.length):(vs.take p++us++vs.drop (p+us.length))[j]? =if p<=j/\j<p+us.length then us[j-p]? else vs[j]? :=by
 rw[bI];by_cases h1:j<p
 ·rw[bS yQ,if_neg yO,cK h1]
 ·rw[cp yQ];have c8:(vs.take p).length=p:=yQ;rw[c8];by_cases h2:j<p+us.length
  ·rw[bS yO,if_pos yO]
  ·rw[cp yO,if_neg yO,eM]
   congr 1;omega
def BD(au:ec P tt)(h:cL tt B E Pp st.o w)(hs:∀t,VR tt E Pp (a.tmps.getD t undef) (look st.s t))(X:o.op= .store t x y)(aq:tt t=some ti)
 (u:(flat (fK tt st.s t y)).length=ti.bT.length) (aA:0<ti.bT.length) (ae:gE hX (flat (fK tt st.s t y))=true) {e off:Nat}{i:Int} (hx:ev st.s x= .fH e r i off) (hm:nb off dB=false) (am:ew st.o r= .row e d true)
 (hk:hY tt e off ti.bT=true) (eO:iG ti.bT (cS (ng st.o 8) (flat (fK tt st.s t y)))=true) (W:eu (eV (ids st.o 8) (flat (fK tt st.s t y)))=true)
 (hK:K .undef ⟨st.s,gU st.o r (.row e (dz.mY d i off (cS qf (cS (ng st.o 8) (flat (fK tt st.s t y))))) true)⟩):o.wp P a w (dH tt B dV E Pp st.o w o a K) Q:=by
 have ai:=au _ _ aq;have hy:=iE hs t y;have J:flat (fK tt st.s t y)≠[]:=by intro h0;rw[h0]at u;simp at u;omega
 have m:=mT hy J;have ax:=Ee h.wr m W;obtain⟨_,gV⟩:=B2 eO ax;generalize al:cS qf (cS (ng st.o 8) (flat (fK tt st.s t y)))=ds at*;have aG:ds.length=ti.bT.length:=by rw[<- al,fI,fI];exact u
 have M:=eG hs x;rw[hx]at M;rw[fV]at hK;have R:=cT am rfl;generalize aw:a.eval x=vx at M;cases M with
 |fH _ _ _ _ _ g o0 len cap hE h0 hu=>
  obtain⟨rfl,h1⟩:=hu.get hm;obtain⟨ri,aj,ar⟩:=h.wr.ob r _ R rfl;rw[hE]at aj;cases aj;obtain⟨vs,T,rows,hg,rfl,hl,aa,fh,dG,C,_⟩:=ar;have C:=C rfl;generalize hi:i.toNat=n at*;have hn:n<len:=yO;generalize V:(bR tt e).length=S at*;have aC:off+ti.bT.length<=S:=by have:=iC hk (ti.bT.length-1) (ti.bT[ti.bT.length-1]'yO) (bx yO);have:=cx this;rw[V]at this;omega
  have an:(n+1)*S<=cap*S:=cW _ yO;rw[c9]at an;have aD:=m.length;generalize L:(a.eval y).cells.toList=us at*;have Y:us.length=ti.bT.length:=yO;have H:=vI (P:=P) ai (v:=a.eval y) hg (o:=o0+n*S+off) (by rw[L];omega) yO (by rw[L];exact vU ae m);rw[L]at H;refine wZ (w':=w.setRow g ⟨vs.take (o0+n*S+off)++us++vs.drop (o0+n*S+off+ti.bT.length)⟩) ?_ ?_
  ·simp[execOp,X,aw,H]
  ·have av:r<st.o.length:=cx R;have O:rows[n]? =some (rows[n]'yO):=bx yO;have aB:=(dG n _ O).1;refine dH.mk (.undef _) hs ?_ hK (λhq=>by rw[X]at hq;simp[fM]at hq);refine h.wm (o':=.row e (dz.mY (.list rows) i off ds) true) R rfl hE rfl (λ_ _=>rfl) hE (.inl (.refl _)) yS ?_ (by simp[av]) ?_ rfl rfl rfl yS ?_ (λ_ _ h=>h) (λ_ _ h=>.inl h) (λb hb=>.inl hb) ?_
   ·intro j ap hj Z hl;rw[bU (dy hj)]at Z;exact⟨ap,Z,hl,λ_ _ h=>h⟩
   ·intro _;refine⟨_,T,_,setRow_heap w g _ _ _ _ hg,rfl,by simp[cn,hl],aa,?_,?_,λ_=>C,λhf=>yE hf⟩
    ·rw[V];simp;omega
    ·intro k row c;simp only[cn,tf,hi]at c;rw[V];by_cases I:n=k
     ·subst I;rw[O]at c;simp at c;refine⟨by rw[<- c];simp;omega,?_⟩;intro j dd ck hj q;have A:=cx q;rw[V]at A;have z:(rows[n].take off++ds++rows[n].drop (off+ds.length))[j]? =some dd:=by rw[<- hj,<-c];simp
      rw[C4 yO]at z;rw[<- Y,jP yO];by_cases ab:off<=j/\j<off+ds.length
      ·rw[if_pos ab]at z;rw[if_pos yO,show o0+n*S+j-(o0+n*S+off)=j-off by omega];have hu:us[j-off]? =some (us[j-off]'yO):=bx yO;refine⟨_,hu,?_⟩;have ac:=iC hk (j-off) (ti.bT[j-off]'yO) (bx yO);rw[show off+(j-off)=j by omega,q]at ac;cases ac;exact gV (j-off) _ _ _ (bx yO) hu z
      ·rw[if_neg ab]at z;rw[if_neg yO];obtain⟨v,U,hr⟩:=(dG n _ O).2 j dd ck z q;rw[V]at U;exact⟨v,U,hr⟩
     ·have af:rows[k]? =some row:=by
       cases G:rows[k]? with
       |none=>rw[G]at c;simp at c
       |some r0=>rw[G]at c;simp[I]at c;rw[c]
      obtain⟨e1,e2⟩:=dG k row af;rw[V]at e1 e2;refine⟨e1,?_⟩;intro j dd ck hj q;have A:=cx q;rw[V]at A;obtain⟨v,U,hr⟩:=e2 j dd ck hj q;refine⟨v,?_,hr⟩;rw[<- Y,jP yO,if_neg]
      ·exact U
      ·rintro⟨q1,q2⟩;have:n*S+(k*S+j-n*S)=k*S+j:=yO;have:=MA (i:=n) (k:=k) (s:=S) (j:=k*S+j-n*S) (l:=j) yO A this;exact I this.1
   ·intro k hk J;exact setRow_other w g k _ (λe=>J (by rw[e];rfl))
   ·intro ad v U;rw[gF (setRow_other w g _ _ (C ad v U))];exact h.wr.pi ad v U
def FQ(h:cL tt B E Pp st.o w)(hs:∀t,VR tt E Pp (a.tmps.getD t undef) (look st.s t))(g:o.op= .assign x)(k:lI x=true)
 (hK:K (.row e (ch st.o)) ⟨st.s,gi st.o [.row e (.list []) true]⟩):o.wp P a w (dH tt B dV E Pp st.o w o a K) Q:=by
 have c:a.eval x= .slice none 0 0:=by
  unfold lI at k;split at k
  ·rfl
  ·simp at k
 rw[eX,cI]at hK;refine dX (v:=.slice none 0 0) (w':=w) ?_ ?_
 ·simp[execOp,g,c]
 ·refine dH.mk (E':=E++[.row0]) (Pp':=Pp) (.row0 _ _ (by rw[<- h.wr.len];simp)) (fG hs) ?_ hK (λ_ ad v c=>c.grow h.wr.len (λ_ _ h=>h) (λ_ _=>rfl));refine⟨h.wr.push (λ_=>rfl) (λb hb=>by simp[RI.cZ]at hb),qo h.pre,h.rv,h.fr,h.jo,h.fresh.push h.wr.len (λb hb=>by simp[RI.cZ]at hb)⟩
def kV:∀(bT:List CK){E:List RI}{c:List Ob},cL tt B E Pp c w->
 ∃E2,cL tt B (E++E2) Pp (c++pH bT) w/\eJ tt (E++E2) Pp (bT.map zeroV) (wq c.length bT)
 |[],E,c,h=>⟨[],by simpa[pH]using h,by simp[wq];exact .nil⟩
 | .slice e::bT,E,c,h=>by have g:cL tt B (E++[.row0]) Pp (c++[.row e (.list []) true]) w:=⟨h.wr.push (λ_=>rfl) (λb hb=>by simp[RI.cZ]at hb),qo h.pre,h.rv,h.fr,h.jo,h.fresh.push h.wr.len (λb hb=>by simp[RI.cZ]at hb)⟩;obtain⟨E2,h1,h2⟩:=kV bT g;refine⟨.row0::E2,by simpa[pH]using h1,?_⟩;rw[show E++RI.row0::E2=E++[.row0]++E2 by simp];refine .cons _ _ _ _ (.row0 _ _ ?_) (yU h2);rw[<- h.wr.len];simp
 | .int k::bT,E,c,h=>let ⟨E2,h1,h2⟩:=kV bT h;⟨E2,h1,.cons _ _ _ _ (.int _ _) h2⟩
 | .bool::bT,E,c,h=>let ⟨E2,h1,h2⟩:=kV bT h;⟨E2,h1,.cons _ _ _ _ (.bl _) h2⟩
 | .str::bT,E,c,h=>let ⟨E2,h1,h2⟩:=kV bT h;⟨E2,h1,.cons _ _ _ _ (.str ⟨#[]⟩) h2⟩
 | .ptr t::bT,E,c,h=>let ⟨E2,h1,h2⟩:=kV bT h;⟨E2,h1,.cons _ _ _ _ .nilp h2⟩
 | .map t e::bT,E,c,h=>let ⟨E2,h1,h2⟩:=kV bT h;⟨E2,h1,.cons _ _ _ _ .nilm h2⟩
 | .fn::bT,E,c,h=>let ⟨E2,h1,h2⟩:=kV bT h;⟨E2,h1,.cons _ _ _ _ .nilf h2⟩
 | .ic::bT,E,c,h=>let ⟨E2,h1,h2⟩:=kV bT h;⟨E2,h1,.cons _ _ _ _ (.undef _) h2⟩
def zQ(u:ec P tt)(h:cL tt B E Pp st.o w)(hs:∀t,VR tt E Pp (a.tmps.getD t undef) (look st.s t))(q:o.op= .alloc t)(c:tt t=some ti)(b:qV tt t (wq st.o.length ti.bT))
 (hK:K (.box (ch st.o+ch (pH ti.bT)) 0) ⟨st.s,gi st.o (gi (pH ti.bT) [.box (wq (ch st.o) ti.bT)])⟩) {dV:List FuncId×List FuncId}:o.wp P a w (dH tt B dV E Pp st.o w o a K) Q:=by
 obtain⟨_,_,⟨z,hz,g⟩,_⟩:=(u _ _ c).run w;rw[eX,eX,cI,cI]at hK;have m:z.cells=⟨ti.bT.map zeroV⟩:=by rw[<- g]
 obtain⟨E2,h1,h2⟩:=kV ti.bT h;have A:=oA h1 t h2 b;refine dX (v:=.pointer (some ⟨w.heap.size,0,none⟩)) (w':=w.alloc (.cells ⟨ti.bT.map zeroV⟩ t)) ?_ ?_
 ·simp[execOp,q,Instr.alloc,hz,newVar,newRow,m]
 ·refine dH.mk (E':=E++E2++[.box w.heap.size]) (Pp':=Pp) ?_ (λt=>(hs t).mono (λi x C=>?_) (λ_ _ h=>h)) ?_ hK (λ_ ad v G=>?_)
  ·simpa using A.2
  ·rw[bI,bS]
   ·exact C
   ·exact(dx.1 C).1
  ·simpa using A.1
  ·have:=G.grow (E2:=E2++[.box w.heap.size]) (objs2:=pH ti.bT++[.box (wq st.o.length ti.bT)]) (w':=w.alloc (.cells ⟨ti.bT.map zeroV⟩ t)) h.wr.len (λ_ _ h=>h) (λk hk=>RowKit.Below.heap_alloc w _ k hk);simpa using this
def Dx(q:ec P tt)(h:cL tt B E Pp st.o w)(hs:∀t,VR tt E Pp (a.tmps.getD t undef) (look st.s t))(m:o.op= .build t ps)(k:tt t=some ti)(hb:(ti.agg&&nb ti.ar 0)=true){cs:List PV}
 (c:lZ st.s tt ti.fs ps.toList (wq (ch st.o) ti.bT)=some cs)
 (hK:K (.agg cs) ⟨st.s,gi st.o (pH ti.bT)⟩):o.wp P a w (dH tt B dV E Pp st.o w o a K) Q:=by
 rw[eX]at hK;rw[cI]at c;obtain⟨E2,h1,h2⟩:=kV ti.bT h
 have b:∀t,VR tt (E++E2) Pp (a.tmps.getD t undef) (look st.s t):=λt=>(hs t).mono (λi x u=>by
  rw[bS]
  ·exact u
  ·exact(dx.1 u).1) (λ_ _ h=>h)
 obtain⟨v,hr,g⟩:=Ix q b k hb h2 c;refine dX (v:=v) (w':=w) ?_ ?_
 ·simp[execOp,m,hr]
 ·exact dH.mk (E':=E++E2) (Pp':=Pp) g b h1 hK (λ_ ad v g=>g.grow h.wr.len (λ_ _ h=>h) (λ_ _=>rfl))
def J1(c:CK):RD tt Pp c (zeroV c) (qf (gL c)):=by
 cases c with
 |int=>exact .int _ _
 |bool=>exact .bool _
 |str=>exact .str ⟨#[]⟩
 |slice=>exact .slnil _
 |ptr=>exact .zG _
 |map=>exact .BT _ _
 |fn=>exact .LQ
 |ic=>exact .OC
def BV(J:ec P tt)(h:cL tt B E Pp st.o w)(hs:∀t,VR tt E Pp (a.tmps.getD t undef) (look st.s t))(M:o.op= .makeSlice t x y)(U:tt t=some ti)(he:dZ ti=some e)(L:tt e=some f)
 (hb:f.bytes<=1024) (W:0<f.bT.length) {k k':IntKind}{l c:Int} (hx:ev st.s x= .int k l) (Y:ev st.s y= .int k' c) (h1:0<=l/\l<=c) (h2:0<=c/\c<=4294967296)
 (hK:K (.row e (ch st.o)) ⟨st.s,gi st.o [.row e (dz.QT l (ke f.bT)) true]⟩):o.wp P a w (dH tt B dV E Pp st.o w o a K) Q:=by
 obtain⟨hu,_,_⟩:=(J _ _ U).slice he;obtain⟨i,z,d,Z,fh,T,hz,I,_⟩:=(J _ _ L).info;have u:=eG hs x;have q:=eG hs y;rw[hx]at u;rw[Y]at q;generalize V:a.eval x=vx at u;generalize R:a.eval y=vy at q;cases u;cases q;rw[eX,cI]at hK;have b:(i.bytes:Int)*c<=281474976710656:=by rw[T];have:(f.bytes:Int)*c<=1024*4294967296:=Int.mul_le_mul yO h2.2 h2.1 yO;omega
 have g:=run_make (P:=P) w t e i z hu Z hz k k' l c h1.1 h1.2 b yO;have m:bR tt e=f.bT:=by simp[bR,L]
 have O:z.cells.size=f.bT.length:=by rw[<- ey,I];simp
 have S:madeCells z.cells (c.toNat*i.size)=⟨(madeCells z.cells (c.toNat*i.size)).toList⟩:=rfl;rw[S]at g;refine dX (v:=.slice (some ⟨w.heap.size,0,none⟩) l.toNat c.toNat) (w':=w.alloc (.cells ⟨(madeCells z.cells (c.toNat*i.size)).toList⟩ e)) ?_ ?_
 ·simp[execOp,M,V,R,g]
 ·refine dH.mk (E':=E++[.row w.heap.size 0 l.toNat c.toNat]) (Pp':=Pp) (.row _ _ _ _ _ _ (by rw[<- h.wr.len];simp)) (fG hs) ?_ hK (λ_ ad v hv=>hv.grow h.wr.len (λ_ _ h=>h) (λk hk=>RowKit.Below.heap_alloc w _ k hk));refine h.new rfl ⟨_,e,eT l.toNat (ke f.bT),eh w _,rfl,yS,yO,?_,?_,λ_=>kj h.wr,λhf=>yE hf⟩
  ·rw[m];simp[madeCells,fh]
  ·intro k row hk;have G:=cx hk;simp at G;have dG:row=ke f.bT:=by rw[bx (yU G)]at hk;simp at hk;exact hk.symm
   subst dG;rw[m];refine⟨by simp[ke,fI],?_⟩;intro j dd ck X C;have H:=cx C;have A:=ig (i:=k) (n:=c.toNat) (s:=f.bT.length) (j:=j) yO H;refine⟨zeroV ck,?_,?_⟩
   ·simp only[madeCells,PF,Nq,dW,cu];rw[nk (by rw[fh];exact A)];simp only[cr,O];have hm:(k*f.bT.length+j) % f.bT.length=j:=by rw[gI,so];exact qW H
    rw[hm,getElem!_pos z.cells j yO];have:z.cells.toList[j]? =some (zeroV ck):=by rw[I];simp[C]
    rw[fW,du yO]at this;exact this
   ·have:dd=qf (gL ck):=by simp only[ke,gG,cu,C,cr,cz]at X;exact X.symm
    rw[this];exact J1 ck
def Md(ar:ec P tt)(h:cL tt B E Pp st.o w)(hs:∀t,VR tt E Pp (a.tmps.getD t undef) (look st.s t)){as:Array Operand}{ts:Array TypeId}{tr:List TypeId}(ae:o.op= .call { callee:=.builtin .clear,args:=as,argTypes:=ts })(has:as.toList=[x])(aJ:ts.toList=t::tr){e:Nat}{i:Int}(aH:tt t=some ti)(he:dZ ti=some e)(au:tt e=some f)(ai:0<f.bT.length)
 (hx:ev st.s x= .fH e r i dB) (aD:ew st.o r= .row e d true)
 (hK:K (.tup []) ⟨st.s,gU st.o r (.row e (dz.app (dz.part d 0 i) (dz.QT (dz.sub (dz.len d) i) (ke f.bT))) true)⟩):o.wp P a w (dH tt B dV E Pp st.o w o a K) Q:=by
 obtain⟨hu,_,_⟩:=(ar _ _ aH).slice he;obtain⟨ii,z,dd,hi,fh,aT,hz,ao,_⟩:=(ar _ _ au).info;have ak:as=⟨[x]⟩:=pZ.1 has;have ab:ts=⟨t::tr⟩:=pZ.1 aJ;subst ak;subst ab;have m:bR tt e=f.bT:=by simp[bR,au]
 have V:z.cells.size=f.bT.length:=by rw[<- ey,ao];simp
 have W:=eG hs x;rw[hx]at W;rw[fV]at hK;have H:=cT aD rfl;have q:fM dV o.op=false:=by rw[ae];rfl
 generalize av:a.eval x=vx at W;cases W with
 |fH _ _ _ _ _ g Z len cap hE h0 aB=>
  obtain⟨⟨o1,rfl,J⟩,ac⟩:=aB.Jh;obtain⟨ri,ax,aI⟩:=h.wr.ob r _ H rfl;rw[hE]at ax;cases ax;obtain⟨vs,T,rows,hg,rfl,hl,al,aw,dG,M,_⟩:=aI;have M:=M rfl;obtain⟨n,rfl⟩:=Ij h0;simp only[ej]at J ac av;have aU:n<=len:=yO;have G:execOp a.eval o=(do let v <-Builtin.clear_ ⟨t::tr⟩ o.type #[.slice (some ⟨g,o1,none⟩) (len-n) (cap-n)];pure (.value v):Sem Next):=by simp[execOp,ae,resolve,invoke,builtin,av]
  have am:dz.app (dz.part (.list rows) 0 n) (dz.QT (dz.sub (dz.len (.list rows)) n) (ke f.bT))= .list (rows.take n++eT (len-n) (ke f.bT)):=by
   simp only[dz,cn,Int.toNat_zero,List.drop_zero,ej,Nat.sub_zero,hl]
   congr 3;omega
  rw[am]at hK;rcases bV n len with c8|aP
  ·have J:o1=Z+n*f.bT.length:=by
    rcases J with h1|h1
    ·rw[<- m];exact h1
    ·omega
   subst J;generalize Y:f.bT.length=S at*;rw[m,Y]at aw;have aR:len*S<=cap*S:=cW _ yO;have aO:n*S+(len-n)*S=len*S:=by rw[<- c9];congr 1;omega
   generalize U:(Builtin.zeroCells z.cells (len-n)).toList=us;have C:us.length=(len-n)*S:=by rw[<- U];simp[Builtin.zeroCells,V]
   have O:∀k j,k<len-n->j<S->∀ck,f.bT[j]? =some ck->us[k*S+j]? =some (zeroV ck):=by
    intro k j hk I ck c;have:=ig hk I;rw[<- U];simp only[Builtin.zeroCells,PF,Nq,cu];rw[nk (by rw[V];exact this)];simp only[cr,V];have hm:(k*S+j) % S=j:=by rw[gI,so];exact qW I
    rw[hm,getElem!_pos z.cells j yO];have:z.cells.toList[j]? =some (zeroV ck):=by rw[ao];simp[c]
    rw[fW,du yO]at this;exact this
   have ap:∀u∈us,u.oneCell'=true:=by
    intro u hu;obtain⟨p,hp,rfl⟩:=List.mem_iff_getElem.1 hu;have aj:0<S:=ai;have aK:p/S<len-n:=by rw[s8 aj];omega
    have aG:p % S<S:=ET _ aj;have c:f.bT[p % S]? =some (f.bT[p % S]'yO):=bx yO;have:=O (p/S) (p % S) aK aG _ c;rw[show p/S*S+p % S=p by rw[gI];exact Cw p S,bx hp]at this;rw[iH this];cases f.bT[p % S]'yO<;>rfl
   have aC:=run_storeCells_at P g (Z+n*S) e us 0 ⟨vs⟩ w hg (by simp[C];omega) ap;refine dX (v:=.tuple #[]) (w':=w.setRow g ⟨vs.take (Z+n*S)++us++vs.drop (Z+n*S+us.length)⟩) ?_ ?_
   ·rw[G];have R:len-n≠0:=yO;obtain⟨k,hk⟩:=Nat.exists_eq_succ_of_ne_zero R;have af:(Builtin.zeroCells z.cells (k+1)).toList=us:=by rw[<- U,hk]
    simp[Builtin.clear_,run_underlying hu,hk,zeroValue,typeInfo,hi,hz,af,aC]
   ·have aL:r<st.o.length:=cx H;refine dH.mk (.tup _ _ .nil) hs ?_ hK (λhq=>by rw[q]at hq;cases hq);refine h.wm (o':=.row e (.list (rows.take n++eT (len-n) (ke f.bT))) true) H rfl hE rfl (λ_ _=>rfl) hE (.inl (.refl _)) yS ?_ (by simp[aL]) ?_ rfl rfl rfl yS ?_ (λ_ _ h=>h) (λ_ _ h=>.inl h) (λb hb=>.inl hb) ?_
    ·intro j aF I ag hl;rw[bU (dy I)]at ag;exact⟨aF,ag,hl,λ_ _ h=>h⟩
    ·intro _;refine⟨_,T,_,setRow_heap w g _ _ _ _ hg,rfl,by simp[hl];omega,al,?_,?_,λ_=>M,λhf=>yE hf⟩
     ·rw[m,Y];simp[C];omega
     ·intro k row A;rw[m,Y];by_cases aa:k<n
      ·rw[bS yQ,cK aa]at A;obtain⟨e1,e2⟩:=dG k row A;rw[m,Y]at e1 e2;refine⟨e1,λj dd ck I c=>?_⟩;have L:j<S:=Y▸cx c;obtain⟨v,hv,hr⟩:=e2 j dd ck I c;refine⟨v,?_,hr⟩;rw[jP (by rw[C];omega),if_neg]
       ·exact hv
       ·have:=ig aa L;omega
      ·have aA:=cx A;simp at aA;rw[cp yQ]at A;have c8:(rows.take n).length=n:=yQ;rw[c8,List.getElem?_replicate,if_pos yO]at A;cases A;refine⟨by rw[<- Y];simp[ke,fI],λj dd ck I c=>?_⟩;have L:j<S:=Y▸cx c;refine⟨zeroV ck,?_,?_⟩
       ·have hb:=ig (i:=k-n) (n:=len-n) yO L;have aQ:k*S=n*S+(k-n)*S:=by rw[<- c9];congr 1;omega
        rw[jP (by rw[C];omega),if_pos (by rw[C];omega)];rw[show Z+k*S+j-(Z+n*S)=(k-n)*S+j by omega];exact O _ _ yO L ck c
       ·have:dd=qf (gL ck):=by simp only[ke,gG,cu,c,cr,cz]at I;exact I.symm
        rw[this];exact J1 ck
    ·intro k hk R;exact setRow_other w g k _ (λe=>R (by rw[e];rfl))
    ·intro ad v hv;rw[gF (setRow_other w g _ _ (M ad v hv))];exact h.wr.pi ad v hv
  ·have an:len-n=0:=yO;have X:rows.take n++eT (len-n) (ke f.bT)=rows:=by rw[an,List.replicate_zero,cA,db yO]
   rw[X]at hK
   have aq:st.o.set r (.row e (.list rows) true)=st.o:=by
    apply pD;intro j;rw[PB];split
    ·rename_i I;subst I;rw[if_pos (cx H),H]
    ·rfl
   rw[aq]at hK;refine dX (v:=.tuple #[]) (w':=w) ?_ ?_
   ·rw[G,an];simp[Builtin.clear_,run_underlying hu]
   ·exact dH.mk (.tup _ _ .nil) hs h hK (λhq=>by rw[q]at hq;cases hq)
def Ga(W:WR tt E Pp objs w)(hs:∀t,VR tt E Pp (a.tmps.getD t undef) (look st.s t))(U:0<f.bT.length):∀(r:List (Nat×Operand))(i:Nat)(rows:List (List D))(vs:List Value),
 rE (ng objs 8) tt st.s e f i n r=some rows->(∀p∈r,∀k∈eV (ids objs 8) (flat (fK tt st.s e p.2)),k∈F)->vs.length=n*f.bT.length->
 ∃us,Instr.fill (λk=>some (k*f.bT.length,f.bT.length)) ⟨vs⟩ (r.map λp=>(p.1,a.eval p.2))=some ⟨us⟩/\us.length=n*f.bT.length/\i+rows.length=n/\(∀p,p<i*f.bT.length->us[p]? =vs[p]?)/\
  ∀(k:Nat)(row:List D),rows[k]? =some row->row.length=f.bT.length/\∀(j:Nat)(d:D)(ck:CK),row[j]? =some d->f.bT[j]? =some ck->
   ∃v,us[(i+k)*f.bT.length+j]? =some v/\RD tt (gK tt E objs w Pp F) ck v d:=by
 intro r;induction r with
 |nil=>
  intro i rows vs h I H;simp only[rE]at h;cases hb:nb i n with
  |false=>rw[hb]at h;simp at h
  |true=>rw[hb]at h;simp at h;subst h;have:=cR hb;exact⟨vs,rfl,H,by simp[this],λ_ _=>rfl,λk row hk=>yE hk⟩
 |cons p r R=>
  intro i rows vs h I H;obtain⟨X,x⟩:=p;simp only[rE]at h;cases hb:(nb i X&&iG f.bT (cS (ng objs 8) (flat (fK tt st.s e x)))&&gE hX (flat (fK tt st.s e x)))with
  |false=>rw[hb]at h;simp at h
  |true=>
   rw[hb]at h;simp only[cond_true]at h;simp only[bw]at hb;have M:=cR hb.1.1;subst M;split at h
   ·rename_i q b;simp at h;subst h;generalize C:flat (fK tt st.s e x)=ps at*
    have u:(cS (ng objs 8) ps).length=f.bT.length:=by
     have:∀(cs:List CK)(G:List PV),iG cs G=true->G.length=cs.length:=by
      intro cs;induction cs with
      |nil=>intro G h;cases G<;>simp_all[iG]
      |cons c cs R=>intro G h;cases G<;>simp_all[iG]
     exact this _ _ hb.1.2
    rw[fI]at u;have g:eJ tt E Pp (a.eval x).cells.toList ps:=by rw[<- C];exact mT (iE hs e x) (by rw[C];intro h0;rw[h0]at u;simp at u;omega)
    have T:=(ua (n:=8) W (F:=F) g (λk hk=>I (i,x) yS k (by rw[C];exact hk)));obtain⟨_,gV⟩:=B2 hb.1.2 T;have mZ:=g.length;let m:=((a.eval x).cells.toList.zipIdx.foldl (λcs (x:Value×Nat)=>cs.setIfInBounds (i*f.bT.length+x.2) x.1) (⟨vs⟩:Array Value)).toList;have O:i<n:=by obtain⟨_,_,_,h3,_⟩:=R (i+1) q (eT (n*f.bT.length) undef) b (λp J=>I p (by simp[J])) yS;omega
    have eO:=ig (i:=i) (n:=n) (s:=f.bT.length) (j:=f.bT.length-1) O yO;have A:∀j,m[j]? =if i*f.bT.length<=j/\j<i*f.bT.length+f.bT.length then(a.eval x).cells.toList[j-i*f.bT.length]? else vs[j]? :=by intro j;have:=sg (a.eval x).cells.toList (i*f.bT.length) 0 ⟨vs⟩ j (by simp only[PA];omega);simp only[m,fW,this,iq];rw[show (a.eval x).cells.toList.length=f.bT.length by omega];simp
    have L:m.length=n*f.bT.length:=by have:=qE (a.eval x).cells.toList (i*f.bT.length) 0 ⟨vs⟩;simp only[m,ey,this];simpa using H
    obtain⟨us,h1,h2,h3,h4,h5⟩:=R (i+1) q m b (λp J=>I p (by simp[J])) L;refine⟨us,?_,h2,yQ,?_,?_⟩
    ·simp only[bJ,Instr.fill];have fh:(a.eval x).cells.size=f.bT.length:=by rw[<- ey];omega
     rw[if_neg (by simp[fh];omega)];rw[<- h1]
     congr 1
     apply fL;simp only[m,<-vF,JX]
    ·intro p J;rw[h4 p (by rw[c9];omega),A,if_neg yO]
    ·intro k row hk;cases k with
     |zero=>simp at hk;subst hk;refine⟨by simp[fI,u],?_⟩;intro j d ck S z;have V:=cx z;have hu:(a.eval x).cells.toList[j]? =some ((a.eval x).cells.toList[j]'yO):=bx yO;refine⟨_,?_,gV j _ _ _ z hu S⟩;rw[h4 _ (by rw[iq,c9];omega),A,iq,if_pos yO,show i*f.bT.length+j-i*f.bT.length=j by omega];exact hu
     |succ k=>obtain⟨e1,e2⟩:=h5 k row (yU hk);refine⟨e1,λj d ck S z=>?_⟩;obtain⟨v,H,hr⟩:=e2 j d ck S z;exact⟨v,by rw[show i+(k+1)=i+1+k by omega];exact H,hr⟩
   ·simp at h
def mU(g:ec P tt)(q:tt t=some ti)(he:dZ ti=some e)(m:tt e=some f)(c:len<=1000)(u:f.bT.length<=1000){parts:List (Nat×Value)}:
 ∃vs:List Value,vs.length=len*f.bT.length/\∀us,Instr.fill (λk=>some (k*f.bT.length,f.bT.length)) ⟨vs⟩ parts=some ⟨us⟩->
  (Instr.buildSlice t len ⟨parts⟩).run P w= .ok (.slice (some ⟨w.heap.size,0,none⟩) len len) (w.alloc (.cells ⟨us⟩ e)):=by
 obtain⟨hu,_,_⟩:=(g _ _ q).slice he;obtain⟨_,h2,⟨z,hz,A⟩,_⟩:=(g _ _ m).run w;have v:len*f.bT.length<=1000*1000:=oS c u;refine⟨((JO (len*f.bT.length)).map ((if len*f.bT.length=0 then #[]else z.cells)[· % (if len*f.bT.length=0 then #[]else z.cells).size]!)).toList,yS,?_⟩;intro us hf;have h:¬len*f.bT.length>2 ^ 24:=yO;simp only[Instr.buildSlice,run_underlying hu,Sem.run_bind,Result.andThen_ok,h2,h,if_false];by_cases h0:len*f.bT.length=0
 ·simp only[h0,if_true]at hf ⊢;have b:Instr.fill (λk=>some (k*f.bT.length,f.bT.length)) ((JO 0).map ((#[]:Array Value)[· % (#[]:Array Value).size]!)) parts=some ⟨us⟩:=hf;simp only[Sem.run_pure,Result.andThen_ok,b,newRow,Sem.run_bind];simp
 ·simp only[h0,if_false]at hf ⊢;have b:Instr.fill (λk=>some (k*f.bT.length,f.bT.length)) ((JO (len*f.bT.length)).map (z.cells[· % z.cells.size]!)) parts=some ⟨us⟩:=hf;simp only[Sem.run_pure,Sem.run_bind,hz,Result.andThen_ok,b,newRow];simp
def OG{l:List (Nat×Operand)}{s:cU}:∀p∈l,∀k∈eV (ids objs 8) (flat (fK tt s e p.2)),k∈eV (ids objs 8) (eV (λp=>flat (fK tt s e p.2)) l):=by intro p b k hk;rw[kZ,dp]at hk ⊢;obtain⟨q,c,hk⟩:=hk;exact⟨q,by rw[kZ,dp];exact⟨p,b,c⟩,hk⟩
def RD.laid{g:Nat}(hl:rows.length=len)
 (h:∀(k:Nat)(row:List D),rows[k]? =some row->row.length=(bR tt e).length/\∀(j:Nat)(d:D)(ck:CK),row[j]? =some d->(bR tt e)[j]? =some ck->∃v,us[k*(bR tt e).length+j]? =some v/\RD tt Pp ck v d)
 (z:∀(j:Nat) v,us[j]? =some v->Pp ⟨g,j,none⟩ v):RD tt Pp (.slice e) (.slice (some ⟨g,0,none⟩) len len) (.list rows):=by
 refine .sl e g 0 len len rows (λi j=>us.getD (i*(bR tt e).length+j) undef) hl (cg _) (λi row c=>(h i row c).1) ?_ ?_
 ·intro i j c m;have u:rows[i]? =some rows[i]:=bx yO;obtain⟨A,hc⟩:=h i _ u;obtain⟨v,b,_⟩:=hc j _ _ (bx yO) (bx m);have:=z _ _ b;simpa[cc,b]using this
 ·intro i j row d ck c m q;obtain⟨v,b,hr⟩:=(h i row c).2 j d ck m q;simpa[cc,b]using hr
def zL(M:ec P tt)(h:cL tt B E Pp st.o w)(hs:∀t,VR tt E Pp (a.tmps.getD t undef) (look st.s t))(J:o.op= .buildSlice t len ps)(L:tt t=some ti)(he:dZ ti=some e)(H:tt e=some f)
 (C:len<=1000) (m:f.bT.length<=1000) (A:0<f.bT.length) (z:rE (ng st.o 8) tt st.s e f 0 len ps.toList=some rows) (S:F=eV (ids st.o 8) (eV (λp=>flat (fK tt st.s e p.2)) ps.toList))
 (hK:(eu F=true/\(K (.row e (ch st.o)) ⟨st.s,gi st.o [.row e (dz.lit rows) true]⟩\/K (.nx e (dz.lit rows)) st))\/K (.nx e (dz.lit rows)) ⟨mM F st.o st.s,fw F 0 st.o⟩)
:o.wp P a w (dH tt B dV E Pp st.o w o a K) Q:=by
 obtain⟨vs,I,c⟩:=mU (w:=w) (parts:=ps.toList.map λp=>(p.1,a.eval p.2)) M L he H C m;obtain⟨us,h1,h2,h3,_,h5⟩:=Ga h.wr hs A (F:=F) ps.toList 0 rows vs z (by rw[S];exact OG) I;have c:=c us h1;have g:bR tt e=f.bT:=by simp[bR,H]
 have q:(ps.map λ(i,x)=>(i,a.eval x))=⟨ps.toList.map λp=>(p.1,a.eval p.2)⟩:=by apply fL;simp
 have hb:∀k,k<w.heap.size->(w.alloc (.cells ⟨us⟩ e)).heap[k]? =w.heap[k]? :=λk hk=>RowKit.Below.heap_alloc w _ k hk;refine dX (v:=.slice (some ⟨w.heap.size,0,none⟩) len len) (w':=w.alloc (.cells ⟨us⟩ e)) ?_ ?_
 ·simp only[execOp,J,q];simp[c]
 have laid:∀(Pp1:fE),(∀ad v,gK tt E st.o w Pp F ad v->Pp1 ad v)->RD tt (λad v=>Pp1 ad v\/(ad.block=w.heap.size/\(w.alloc (.cells ⟨us⟩ e)).cell? ad=some v)) (.slice e) (.slice (some ⟨w.heap.size,0,none⟩) len len) (.list rows):=by
  intro Pp1 T;refine RD.laid yO ?_ ?_ (us:=us)
  ·intro k row hk;rw[g];obtain⟨e1,e2⟩:=h5 k row hk;refine⟨e1,λj d ck G m=>?_⟩;obtain⟨v,u,hr⟩:=e2 j d ck G m;exact⟨v,yU u,hr.mono (λad v h=>.inl (T ad v h))⟩
  ·intro j v G;exact .inr ⟨rfl,by rw[eC (eh w _)];exact G⟩
 rcases hK with⟨b,hK|hK⟩|hK
 ·have b:=j6 b;subst b;rw[eX,cI]at hK;refine dH.mk (E':=E++[.row w.heap.size 0 len len]) (Pp':=Pp) (.row _ _ _ _ _ _ (by rw[<- h.wr.len];simp)) (fG hs) ?_ hK (λ_ ad v u=>u.grow h.wr.len (λ_ _ h=>h) hb);refine h.new rfl ⟨us,e,rows,eh w _,rfl,yO,cg _,by rw[g];omega,?_,λ_=>kj h.wr,λhf=>yE hf⟩;intro k row hk;rw[g];obtain⟨e1,e2⟩:=h5 k row hk;refine⟨e1,λj d ck G m=>?_⟩;obtain⟨v,u,hr⟩:=e2 j d ck G m;exact⟨v,yU u,hr.mono (λ_ _=>oF)⟩
 ·have b:=j6 b;subst b;have O:=h.lay us e;refine dH.mk (s':=st.s) (o':=st.o) (.nx _ _ _ _ (laid Pp (λ_ _=>oF))) (λt=>(hs t).mono (λ_ _ h=>h) (λ_ _ h=>.inl h)) O hK ?_;intro _ ad v u;simpa using u.grow (E2:=[]) (objs2:=[]) (Pp':=λad v=>Pp ad v\/(ad.block=w.heap.size/\(w.alloc (.cells ⟨us⟩ e)).cell? ad=some v)) h.wr.len (λ_ _ h=>.inl h) hb
 ·have R:=h.mN F;have O:=R.lay us e;refine dH.mk (.nx _ _ _ _ (laid _ (λ_ _ h=>h))) (λt=>(tY h.wr hs t).mono (λ_ _ h=>h) (λ_ _ h=>.inl h)) O hK ?_;intro _ ad v u;simpa using(u.mN F).grow (E2:=[]) (objs2:=[]) (Pp':=λad v=>gK tt E st.o w Pp F ad v\/(ad.block=w.heap.size/\(w.alloc (.cells ⟨us⟩ e)).cell? ad=some v)) R.wr.len (λ_ _ h=>.inl h) hb
def AM{sz:Nat}(fh:sz=1){s:cU}(hs:∀t,VR tt E Pp (a.tmps.getD t undef) (look s t)):∀(r:List (Nat×Operand))(i:Nat)(l:List PV)(vs:List Value),sO s i n r=some l->vs.length=n->
 ∃us,Instr.fill (λk=>some (k*sz,sz)) ⟨vs⟩ (r.map λp=>(p.1,a.eval p.2))=some ⟨us⟩/\us.length=n/\i+l.length=n/\(∀p,p<i->us[p]? =vs[p]?)/\∀(k:Nat) p,l[k]? =some p->∃v,us[i+k]? =some v/\VR tt E Pp v p:=by
 subst fh;intro r;induction r with
 |nil=>
  intro i l vs h c;simp only[sO]at h;cases hb:nb i n with
  |false=>rw[hb]at h;simp at h
  |true=>rw[hb]at h;simp at h;subst h;have:=cR hb;exact⟨vs,rfl,c,by simp[this],λ_ _=>rfl,λk p hk=>yE hk⟩
 |cons p r G=>
  intro i l vs h c;obtain⟨H,x⟩:=p;simp only[sO]at h;cases hb:(nb i H&&hX (ev s x))with
  |false=>rw[hb]at h;simp at h
  |true=>
   rw[hb]at h;simp only[cond_true]at h;simp only[bw]at hb;have C:=cR hb.1;subst C;split at h
   ·rename_i I m;simp at h;subst h;have J:=eG hs x;have g:flat (ev s x)=[ev s x]:=by have:=hb.2;generalize ev s x=p at this;cases p<;>first|rfl|simp[hX]at this
    have b:eJ tt E Pp (a.eval x).cells.toList [ev s x]:=by rw[<- g];exact mT J (by rw[g];simp)
    obtain⟨u,hu,A⟩:∃u,(a.eval x).cells.toList=[u]/\VR tt E Pp u (ev s x):=by
     generalize (a.eval x).cells.toList=us at b;cases b with
     |cons v _ vs _ h1 h2=>cases h2;exact⟨v,rfl,h1⟩
    have z:(a.eval x).cells= #[u]:=fL (by rw[hu]);have q:(vs.set i u).length=n:=by simp[c]
    obtain⟨us,h1,h2,h3,h4,h5⟩:=G (i+1) I (vs.set i u) m q;refine⟨us,?_,h2,yQ,?_,?_⟩
    ·simp only[bJ,Instr.fill,z];rw[if_neg yQ];rw[<- h1]
     congr 1
     simp
    ·intro p L;rw[h4 p yO,bU yO]
    ·intro k p hk;cases k with
     |zero=>simp at hk;subst hk;refine⟨u,?_,A⟩;rw[iq,h4 i yO,bZ yO]
     |succ k=>obtain⟨v,c,hr⟩:=h5 k p (yU hk);exact⟨v,by rw[show i+(k+1)=i+1+k by omega];exact c,hr⟩
   ·simp at h
def Eu(C:ec P tt)(h:cL tt B E Pp st.o w)(hs:∀t,VR tt E Pp (a.tmps.getD t undef) (look st.s t))(z:o.op= .buildSlice t len ps)(A:tt t=some ti)(he:dZ ti=some e)(H:tt e=some f)
 (m:len<=1000) (q:f.bT.length=1) (hl:sO st.s 0 len ps.toList=some l) (L:F=eV (ids st.o 8) l)
 (hK:K (.cP (cS (ng st.o 8) l) dB) ⟨mM F st.o st.s,fw F 0 st.o⟩)
:o.wp P a w (dH tt B dV E Pp st.o w o a K) Q:=by
 obtain⟨vs,c,b⟩:=mU (w:=w) (parts:=ps.toList.map λp=>(p.1,a.eval p.2)) C A he H m yO;rw[q,pP]at c;obtain⟨us,h1,h2,h3,_,h5⟩:=AM q hs ps.toList 0 l vs hl c;have b:=b us h1;have g:(ps.map λ(i,x)=>(i,a.eval x))=⟨ps.toList.map λp=>(p.1,a.eval p.2)⟩:=by apply fL;simp
 refine dX (v:=.slice (some ⟨w.heap.size,0,none⟩) len len) (w':=w.alloc (.cells ⟨us⟩ e)) ?_ ?_
 ·simp only[execOp,z,g];simp[b]
 have u:us.length=l.length:=yO;have c:eJ tt E Pp us l:=eJ.mG u (λj v p G M=>by obtain⟨U,h6,h7⟩:=h5 j p M;rw[dW,G]at h6;cases h6;exact h7);have I:=ua (n:=8) h.wr (F:=F) c (λi O=>by rw[L];exact O);have J:=h.mN F;have T:=J.lay us e;have hb:∀k,k<w.heap.size->(w.alloc (.cells ⟨us⟩ e)).heap[k]? =w.heap[k]? :=λk hk=>RowKit.Below.heap_alloc w _ k hk;refine dH.mk (.cP _ us _ _ w.heap.size 0 ⟨λh=>absurd rfl h,λ_=>by rw[show us.length=len by omega]⟩ (I.mono (λi x R=>yE R) (λ_ _ h=>.inl h)) (λj v S=>.inr ⟨rfl,by rw[eC (eh w _)];simpa using S⟩)) (λt=>(tY h.wr hs t).mono (λ_ _ h=>h) (λ_ _ h=>.inl h)) T hK ?_;intro _ ad v G;simpa using(G.mN F).grow (E2:=[]) (objs2:=[]) (Pp':=λad v=>gK tt E st.o w Pp F ad v\/(ad.block=w.heap.size/\(w.alloc (.cells ⟨us⟩ e)).cell? ad=some v)) J.wr.len (λ_ _ h=>.inl h) hb
def Ci(I:ec P tt)(h:cL tt B E Pp st.o w)(hs:∀t,VR tt E Pp (a.tmps.getD t undef) (look st.s t))(H:o.op= .buildSlice t len ps)(G:tt t=some ti)(he:dZ ti=some e)(C:tt e=some f)
 (q:len<=1000) (m:f.bT.length=1) (hl:sO st.s 0 len ps.toList=some l) (u:qV tt e l)
 (hK:K (.box (ch st.o) (dB+1+len)) ⟨st.s,gi st.o [.box l]⟩)
:o.wp P a w (dH tt B dV E Pp st.o w o a K) Q:=by
 obtain⟨vs,g,b⟩:=mU (w:=w) (parts:=ps.toList.map λp=>(p.1,a.eval p.2)) I G he C q yO;rw[m,pP]at g;obtain⟨us,h1,h2,h3,_,h5⟩:=AM m hs ps.toList 0 l vs hl g;have b:=b us h1;have c:(ps.map λ(i,x)=>(i,a.eval x))=⟨ps.toList.map λp=>(p.1,a.eval p.2)⟩:=by apply fL;simp
 rw[eX,cI]at hK;have z:us.length=l.length:=yO;have g:eJ tt E Pp us l:=eJ.mG z (λj v p A J=>by obtain⟨M,h6,h7⟩:=h5 j p J;rw[dW,A]at h6;cases h6;exact h7);have L:=oA h e g u;refine dX (v:=.slice (some ⟨w.heap.size,0,none⟩) len len) (w':=w.alloc (.cells ⟨us⟩ e)) ?_ ?_
 ·simp only[execOp,H,c];simp[b]
 refine dH.mk ?_ (fG hs) L.1 hK (λ_ ad v A=>A.grow h.wr.len (λ_ _ h=>h) (λk hk=>RowKit.Below.heap_alloc w _ k hk));exact .box _ _ _ w.heap.size (by rw[<- h.wr.len];simp) Ev.slc
end
end
section
variable [Inhabited pB]
open Go
section
variable {P:Program}{tt:TypeId->Option TI}{N:Nat}{B:jc}{E:List RI}{Pp:fE}{objs:List Ob}{w:World}{st:St}{a:Act}{dV:List FuncId×List FuncId}
variable {A F G ti:TI}{r cap n g:Nat}{q f ty t T:TypeId}{K:PV->St->Prop}{Q:Exit->Act->World->Prop}{y:Operand}{wr:Bool}{olds:List (List D)}{C:Array Operand}{ts:Array TypeId}{vs oldc:List Value}{w':World}{base:Option Addr}{Pp':fE}{l:Int}{E':List RI}{ri ri':RI}{ad:Addr}{H:IntKind}
structure Reads (tt:TypeId->Option TI) (Pp:fE) (w:World) (e:TypeId) (x:Value) (rows:List (List D)) (news:List Value):Prop where
 len:news.length=rows.length*(bR tt e).length
 shape:(∃ba:Option Addr,x= .slice ba 0 0/\rows=[])\/(∃b o c,x= .slice (some ⟨b,o,none⟩) rows.length c/\rows.length<=c/\∀(j:Nat) u,news[j]? =some u->w.cell? ⟨b,o+j,none⟩=some u)\/
  ∃s:ByteArray,x= .string s/\news=Lib.strCells s/\rows.length=s.size
 rd:∀(k:Nat)(row:List D),rows[k]? =some row->row.length=(bR tt e).length/\∀(j:Nat)(d:D)(ck:CK),row[j]? =some d->(bR tt e)[j]? =some ck->
  ∃v,news[k*(bR tt e).length+j]? =some v/\RD tt Pp ck v d
def RD.one{c:CK}{v:Value}{d:D}(h:RD tt Pp c v d):v.oneCell'=true:=by cases h<;>rfl
def za{x S:Nat}(h:x<n*S):x/S<n/\x % S<S/\x/S*S+x % S=x:=by
 have b:0<S:=by
  rcases wA S with h0|h0
  ·subst h0;simp at h
  ·exact h0
 refine⟨by rw[s8 b];exact h,ET _ b,?_⟩;rw[gI];exact Cw x S
def Reads.one{e:TypeId}{x:Value}{rows:List (List D)}{news:List Value}(h:Reads tt Pp w e x rows news):∀u∈news,u.oneCell'=true:=by intro u hu;obtain⟨p,b⟩:=fF hu;have c8:=cx b;rw[h.len]at c8;obtain⟨h1,h2,h3⟩:=za c8;obtain⟨e1,e2⟩:=h.rd _ _ (bx h1);obtain⟨v,c,hr⟩:=e2 _ _ _ (bx yO) (bx h2);rw[h3,b]at c;cases c;exact hr.one
def Reads.P1{e:TypeId}{v:Value}{d:D}(s:WR tt E Pp objs w)(h:RD tt Pp (.slice e) v d):∃rows news,d= .list rows/\Reads tt Pp w e v rows news:=by
 cases h with
 |slnil=>exact⟨[],[],rfl,yS,.inl ⟨none,rfl,rfl⟩,λk row h=>yE h⟩
 |EY _ ad=>exact⟨[],[],rfl,yS,.inl ⟨some ad,rfl,rfl⟩,λk row h=>yE h⟩
 |sl _ b o len cap rows vf hl hc dG gR gV=>
  refine⟨rows,(fb (rows.length*(bR tt e).length)).map (λx=>vf (x/(bR tt e).length) (x % (bR tt e).length)),rfl,yS,.inr (.inl ⟨b,o,cap,by rw[hl],yO,?_⟩),?_⟩
  ·intro j u i;have c8:=cx i;simp at c8;obtain⟨h1,h2,h3⟩:=za c8;simp only[cu,nk c8,cr,cz]at i;subst i;have:=s.PY (gR (j/(bR tt e).length) (j % (bR tt e).length) (by rw[<- hl];exact h1) h2)
   rwa [eY,h3]at this
  ·intro k row hk;refine⟨dG k row hk,λj d ck i m=>⟨vf k j,?_,gV k j row d ck hk i m⟩⟩;have c:=cx m;have p:=cx hk;have c8:=ig p c;simp only[cu,nk c8,cr,cz];have e1:(k*(bR tt e).length+j)/(bR tt e).length=k:=by rw[gI,sq yO];simp[qX c]
   have e2:(k*(bR tt e).length+j) % (bR tt e).length=j:=by rw[gI,so];exact qW c
   rw[e1,e2]
def wi.reads{e:TypeId}{o len:Nat}{rows:List (List D)}(h:wi tt Pp e vs o rows)(hl:rows.length=len)(fh:o+len*(bR tt e).length<=vs.length):
 ((vs.drop o).take (len*(bR tt e).length)).length=rows.length*(bR tt e).length/\∀(k:Nat)(row:List D),rows[k]? =some row->row.length=(bR tt e).length/\∀(j:Nat)(d:D)(ck:CK),row[j]? =some d->(bR tt e)[j]? =some ck->
 ∃v,((vs.drop o).take (len*(bR tt e).length))[k*(bR tt e).length+j]? =some v/\RD tt Pp ck v d:=by
 refine⟨by rw[hl];simp;omega,λk row hk=>?_⟩;obtain⟨e1,e2⟩:=h k row hk;refine⟨e1,λj d ck m b=>?_⟩;obtain⟨v,p,hr⟩:=e2 j d ck m b;have c:=cx b;have i:=cx hk;have c8:=ig i c;refine⟨v,?_,hr⟩;rw[cK (by rw[<- hl];exact c8),eM];rw[show o+(k*(bR tt e).length+j)=o+k*(bR tt e).length+j by omega];exact p
def Reads.QY{K:TypeId->D->Prop}(z:WR tt E Pp objs w){v:Value}{p:PV}(I:VR tt E Pp v p)(h:Kq objs p K):∃e rows news,K e (.list rows)/\Reads tt Pp w e v rows news:=by
 unfold Kq at h;split at h
 ·cases I with
  |lst e _ _ hr=>obtain⟨rows,news,rfl,L⟩:=Reads.P1 z hr;exact⟨_,rows,news,h,L⟩
 ·rename_i e r;split at h
  ·rename_i e' d wr J;cases hb:nb e e' with
   |false=>rw[hb]at h;exact h.elim
   |true=>
    rw[hb]at h;have:=cR hb;subst this;have x:=cT J rfl;obtain⟨ri,b,c⟩:=z.ob r _ x rfl;cases I with
    |row0 _ _ m=>rw[m]at b;cases b;have:d= .list []:=c;subst this;exact⟨_,[],[],h,yS,.inl ⟨none,rfl,rfl⟩,λk row h=>yE h⟩
    |row _ _ g o len cap m=>rw[m]at b;cases b;obtain⟨vs,T,rows,O,rfl,hl,i,fh,dG,_,_⟩:=c;have M:len*(bR tt e).length<=cap*(bR tt e).length:=cW _ i;obtain⟨h1,h2⟩:=dG.reads hl yO;refine⟨_,rows,(vs.drop o).take (len*(bR tt e).length),h,h1,.inr (.inl ⟨g,o,cap,by rw[hl],yO,?_⟩),h2⟩;intro j u s;have c8:=cx s;rw[h1,hl]at c8;rw[cK c8,eM]at s;rw[eC O];exact s
  ·exact h.elim
 ·exact h.elim
def Reads.QX{e:TypeId}(he:bR tt e=[.int .u8])(b:ByteArray):Reads tt Pp w e (.string b) (b.data.toList.map λc=>[.int (c.toNat:Int)]) (Lib.strCells b):=by
 have hl:(b.data.toList.map λc=>[D.int (c.toNat:Int)]).length=b.size:=by rw[bL,ey];rfl
 refine⟨by rw[Lib.strCells_length,he,hl];exact(pP _).symm,.inr (.inr ⟨b,rfl,rfl,hl⟩),λk row hk=>?_⟩;rw[cu]at hk;obtain⟨c,hc,rfl⟩:=p6.1 hk;refine⟨by rw[he];rfl,λj d ck i h=>?_⟩;rw[he]at h ⊢;cases j with
 |succ j=>simp at i
 |zero=>simp at i h;subst i h;exact⟨.int .u8 c.toNat,by simp[Lib.strCells,hc],.int _ _⟩
def Reads.first{e:TypeId}{x:Value}{rows:List (List D)}{news:List Value}(h:Reads tt Pp w e x rows news)(k:w'.heap=w.heap):
 (Builtin.lenOf x).run P w'= .ok rows.length w'/\(Builtin.firstCells (bR tt e).length rows.length x).run P w'= .ok news.toArray w':=by
 rcases h.shape with⟨ba,rfl,rfl⟩|⟨b,o,c,rfl,hc,d⟩|⟨s,rfl,rfl,hs⟩
 ·have hl:=h.len;simp at hl;subst hl;cases ba with
  |none=>exact⟨by simp[Builtin.lenOf],by simp[Builtin.firstCells]⟩
  |some ad=>exact⟨by simp[Builtin.lenOf],run_firstCells_some (P:=P) w' _ _ _ _ _ [] yS (λj u i=>yE i)⟩
 ·refine⟨by simp[Builtin.lenOf],run_firstCells_some (P:=P) w' _ _ _ _ _ news h.len ?_⟩;intro j u i;rw[fg];have:=d j u i;rw[<- this];simp[World.cell?,k]
 ·exact⟨by simp[Builtin.lenOf,hs],by rw[hs];exact Lib.run_firstCells_string w' _ s⟩
def EC{e:TypeId}(h1:tt q=some F)(h2:tt f=some G)(s:dZ F=some e)(p:P.underlying f=some (.slice e)\/P.underlying f=some .string)(h:tt e=some A)(k:ec P tt)
 {x:Value}{rows:List (List D)}{news:List Value} (u:Reads tt Pp w e x rows news) {o:Nat}{cur:List Value} (I:w.heap[g]? =some (.cells ⟨cur⟩ T (0,0)))
 (b:n+rows.length<=cap) (eO:o+n*(bR tt e).length+news.length<=cur.length):
 (Builtin.append_ #[q,f] ty #[.slice (some ⟨g,o,none⟩) n cap,x]).run P w= .ok (.slice (some ⟨g,o,none⟩) (n+rows.length) cap) (w.setRow g ⟨cur.take (o+n*(bR tt e).length)++news++cur.drop (o+n*(bR tt e).length+news.length)⟩):=by
 obtain⟨m,_,_⟩:=(k _ _ h1).slice s;have d:bR tt e=A.bT:=by simp[bR,h]
 obtain⟨_,i,_,_⟩:=(k _ _ h).run w;rw[<- d]at i;obtain⟨z,v⟩:=u.first (P:=P) (w':=w) rfl;have c:=run_storeCells_at P g (o+n*(bR tt e).length) T news 0 ⟨cur⟩ w I (yU eO) u.one;simp only[iq]at c;rcases p with j|j<;>simp[Builtin.append_,run_underlying m,run_underlying j,i,z,b,v,fg,c]
def wh{e:TypeId}(h1:tt q=some F)(h2:tt f=some G)(L:dZ F=some e)(I:P.underlying f=some (.slice e)\/P.underlying f=some .string)(m:tt e=some A)(j:ec P tt)
 {x y:Value}{rows:List (List D)}{news:List Value} (R:Reads tt Pp w e x rows news) (hO:Reads tt Pp w e y olds oldc) (V:y= .slice base olds.length cap) (O:olds.length<=cap)
 (hg:cap<olds.length+rows.length) (v:olds.length+rows.length<=4294967296) (hb:A.bytes<=1024):
 ∃(M:Nat) (zs:List Value),olds.length+rows.length<=M/\zs.length=(M-(olds.length+rows.length))*(bR tt e).length/\
 (Builtin.append_ #[q,f] ty #[y,x]).run P w= .ok (.slice (some ⟨w.heap.size,0,none⟩) (olds.length+rows.length) M) (w.drew.alloc (.cells ⟨oldc++news++zs⟩ e)):=by
 obtain⟨p,_,_⟩:=(j _ _ h1).slice L;have b:bR tt e=A.bT:=by simp[bR,m]
 obtain⟨i,z,d,W,fh,U,hz,J,_⟩:=(j _ _ m).info;rw[<- b]at fh;have u:z.cells.size=(bR tt e).length:=by rw[<- ey,J,b];simp
 obtain⟨S,_⟩:=R.first (P:=P) (w':=w) rfl;obtain⟨_,X⟩:=R.first (P:=P) (w':=w.drew) rfl;obtain⟨_,Y⟩:=hO.first (P:=P) (w':=w.drew) rfl;have o:¬(olds.length+rows.length<=cap):=yO;have Z:(olds.length+rows.length)*i.bytes<=4294967296*1024:=oS v yO;have s:=growslice_fits (need:=olds.length+rows.length) (old:=cap) (bytes:=i.bytes) yO yO;have k:¬(281474976710656<Builtin.nextslicecap (olds.length+rows.length) cap*i.bytes):=yO;have h:¬(9223372036854775807<((olds.length:Int)+(rows.length:Int))):=yO;refine⟨grownCap w (olds.length+rows.length) cap e,(Builtin.zeroCells z.cells (grownCap w (olds.length+rows.length) cap e-(olds.length+rows.length))).toList,grownCap_ge _ _ _ _,by simp[Builtin.zeroCells,u],?_⟩;subst V
 rcases I with c|c<;>(
  simp[Builtin.append_,run_underlying p,run_underlying c,sizeOf,typeInfo,zeroValue,W,hz,fh,S,o,h,k,Question.forced,X,Y,newRow,grownCap]
  congr 2
  apply fL;simp[bI])
def qM{e:TypeId}(h1:tt q=some F)(h2:tt f=some G)(u:dZ F=some e)(m:P.underlying f=some (.slice e)\/P.underlying f=some .string)(j:tt e=some A)(o:ec P tt)
 {x:Value}{news:List Value} (v:Reads tt Pp w e x [] news) (c:n<=cap):
 (Builtin.append_ #[q,f] ty #[.slice base n cap,x]).run P w= .ok (.slice base n cap) w:=by
 obtain⟨k,_,_⟩:=(o _ _ h1).slice u;have i:bR tt e=A.bT:=by simp[bR,j]
 obtain⟨_,h,_,_⟩:=(o _ _ j).run w;rw[<- i]at h;obtain⟨s,p⟩:=v.first (P:=P) (w':=w) rfl;have hl:=v.len;simp at hl;subst hl;simp only[bX]at s p;cases base with
 |none=>rcases m with d|d<;>simp[Builtin.append_,run_underlying k,run_underlying d,h,s,c,p]
 |some b=>rcases m with d|d<;>simp[Builtin.append_,run_underlying k,run_underlying d,h,s,c,p,storeCells]
def Mn{e:TypeId}{rows:List (List D)}{news zs:List Value}(i:oldc.length=olds.length*(bR tt e).length)
 (m:∀(k:Nat)(row:List D),olds[k]? =some row->row.length=(bR tt e).length/\∀(j:Nat)(d:D)(ck:CK),row[j]? =some d->(bR tt e)[j]? =some ck->∃v,oldc[k*(bR tt e).length+j]? =some v/\RD tt Pp ck v d)
 (o:news.length=rows.length*(bR tt e).length)
 (p:∀(k:Nat)(row:List D),rows[k]? =some row->row.length=(bR tt e).length/\∀(j:Nat)(d:D)(ck:CK),row[j]? =some d->(bR tt e)[j]? =some ck->∃v,news[k*(bR tt e).length+j]? =some v/\RD tt Pp ck v d):
 ∀(k:Nat)(row:List D),(olds++rows)[k]? =some row->row.length=(bR tt e).length/\∀(j:Nat)(d:D)(ck:CK),row[j]? =some d->(bR tt e)[j]? =some ck->∃v,(oldc++news++zs)[k*(bR tt e).length+j]? =some v/\RD tt Pp ck v d:=by
 intro k row hk;rcases ju hk with⟨c8,h1⟩|⟨k',rfl,h1⟩
 ·obtain⟨e1,e2⟩:=m k row h1;refine⟨e1,λj d ck c b=>?_⟩;obtain⟨v,h,hr⟩:=e2 j d ck c b;exact⟨v,fZ (fZ h),hr⟩
 ·obtain⟨e1,e2⟩:=p k' row h1;refine⟨e1,λj d ck c b=>?_⟩;obtain⟨v,h,hr⟩:=e2 j d ck c b;refine⟨v,fZ ?_,hr⟩;rw[show (olds.length+k')*(bR tt e).length+j=oldc.length+(k'*(bR tt e).length+j)by rw[i,c9];omega];exact kU h
theorem kg{o:Oper}{x y:Operand}{q f:TypeId}{C:Array Operand}{ts:Array TypeId}(c:o.op= .call { callee:=.builtin .append,args:=C,argTypes:=ts })(has:C.toList=[x,y])(b:ts.toList=[q,f]){v:Value}{w':World}
 (h:(Builtin.append_ #[q,f] o.type #[a.eval x,a.eval y]).run P w= .ok v w'):(execOp a.eval o).run P w= .ok (.value v) w':=by
 obtain rfl:C= #[x,y]:=by cases C;simp at has;simp[has]
 obtain rfl:ts= #[q,f]:=by cases ts;simp at b;simp[b]
 simp[execOp,c,resolve,invoke,builtin,h]
def zP(O:ec P tt)(h:cL tt B E Pp st.o w)(hs:∀t,VR tt E Pp (a.tmps.getD t undef) (look st.s t)){o:Oper}{x:Operand}{e:TypeId}
 (W:o.op= .call { callee:=.builtin .append,args:=C,argTypes:=ts }) (has:C.toList=[x,y]) (Y:ts.toList=[q,f])
 (h1:tt q=some F) (h2:tt f=some G) (M:dZ F=some e) (J:P.underlying f=some (.slice e)\/P.underlying f=some .string) (U:tt e=some A) (hb:A.bytes<=1024)
 {rows:List (List D)}{news:List Value} (S:Reads tt Pp w e (a.eval y) rows news) {d:D} (hx:VR tt E Pp (a.eval x) (.nx e d))
 (z:dz.len d+rows.length<=4294967296)
 (hK:(0<rows.length/\K (.row e (ch st.o)) ⟨st.s,gi st.o [.row e (dz.app d (.list rows)) true]⟩)\/K (.lst e (dz.app d (.list rows))) st)
:o.wp P a w (dH tt B dV E Pp st.o w o a K) Q:=by
 have s:= @kg _ P w a o x y q f C ts W has Y;generalize aj:a.eval x=vx at hx s;cases hx with
 |nx _ base n _ hr=>
  obtain⟨olds,oldc,rfl,hO⟩:=Reads.P1 h.wr hr
  have hn:n=olds.length:=by
   rcases hO.shape with⟨_,he,h0⟩|⟨b,o',c,he,_⟩|⟨_,he,_⟩
   ·cases he;simp[h0]
   ·cases he;rfl
   ·cases he
  subst hn;by_cases h0:rows=[]
  ·subst h0;rcases hK with⟨hp,_⟩|hK
   ·simp at hp
   ·have m:=qM (ty:=o.type) (n:=olds.length) (cap:=olds.length) (base:=base) h1 h2 M J U O S (cg _);refine dX (s m) ?_;refine dH.mk (s':=st.s) (o':=st.o) (.lst _ _ _ ?_) hs h hK (λ_ ad v p=>p);simpa[cn]using hr
  ·have ac:0<rows.length:=gx.2 h0;obtain⟨Z,zs,I,X,m⟩:=wh (ty:=o.type) h1 h2 M J U O S hO rfl (cg _) yO (by simp[cn]at z;omega) hb;have gV:=Mn (zs:=zs) hO.len hO.rd S.len S.rd;have hd:cL tt B E Pp st.o w.drew:=h.drew;have L:∀k,k<w.heap.size->(w.drew.alloc (.cells ⟨oldc++news++zs⟩ e)).heap[k]? =w.heap[k]? :=λk hk=>RowKit.Below.heap_alloc w.drew _ k hk
   have fh:(oldc++news++zs).length=Z*(bR tt e).length:=by
    simp only[bt,hO.len,S.len,X,<-c9]
    congr 1;omega
   refine dX (s m) ?_;rcases hK with⟨_,hK⟩|hK
   ·rw[eX,cI]at hK;refine dH.mk (E':=E++[.row w.heap.size 0 (olds.length+rows.length) Z]) (Pp':=Pp) (.row _ _ _ _ _ _ (by rw[<- h.wr.len];simp)) (fG hs) ?_ hK (λ_ ad v p=>p.grow h.wr.len (λ_ _ h=>h) L);refine hd.new rfl ⟨_,e,olds++rows,eh w.drew _,rfl,yS,I,yO,?_,λ_=>kj h.wr,λhf=>yE hf⟩;intro k row hk;obtain⟨e1,e2⟩:=gV k row hk;refine⟨e1,λj d ck R u=>?_⟩;obtain⟨v,p,hr⟩:=e2 j d ck R u;exact⟨v,yU p,hr⟩
   ·have hS:=hd.lay (oldc++news++zs) e;refine dH.mk (s':=st.s) (o':=st.o) (.lst _ _ _ ?_) (λt=>(hs t).mono (λ_ _ h=>h) (λ_ _ h=>.inl h)) hS hK ?_
    ·refine .sl e w.heap.size 0 _ Z (olds++rows) (λi j=>(oldc++news++zs).getD (i*(bR tt e).length+j) undef) yS I (λi row V=>(gV i row V).1) ?_ ?_
     ·intro i j V R;have aa:(olds++rows)[i]? =some ((olds++rows)[i]'yQ):=bx _;obtain⟨ah,hc⟩:=gV i _ aa;obtain⟨v,p,_⟩:=hc j _ _ (bx yO) (bx R);refine .inr ⟨rfl,?_⟩;exact(eC (eh w.drew (.cells ⟨oldc++news++zs⟩ e)) (0+i*(bR tt e).length+j)).trans (by rw[dW,cc,p];rfl)
     ·intro i j row d ck V R u;obtain⟨v,p,hr⟩:=(gV i row V).2 j d ck R u;simp only[cc,p,eR];exact hr.mono (λ_ _ h=>.inl h)
    ·intro _ ad v p;simpa using p.grow (E2:=[]) (objs2:=[]) (Pp':=λad v=>Pp ad v\/(ad.block=w.drew.heap.size/\(w.drew.alloc (.cells ⟨oldc++news++zs⟩ e)).cell? ad=some v)) h.wr.len (λ_ _ h=>.inl h) L
def rH(r:Nat):∀(l:List Ob)(i:Nat),(jw r l)[i]? =(l[i]?).map λo=>match o with| .box cs=>.box (cS (kill r) cs)| .loop n ps a c s j=>.loop n ps a c (lQ r s) j|o=>o
 |[],i=>by simp[jw]
 |o::l,i=>by cases o<;>cases i<;>simp[jw,rH r l]
def lV(r:Nat):∀(l:List Ob),(jw r l).length=l.length
 |[]=>rfl
 |o::l=>by cases o<;>simp[jw,lV r l]
def D1(c:∀(i:Nat) x,i≠r->E[i]? =some x->E'[i]? =some x){ps:List PV}(b:eJ tt E Pp vs ps):eJ tt E' Pp vs (cS (kill r) ps):=by
 induction ps generalizing vs with
 |nil=>cases b;exact .nil
 |cons p ps d=>cases b with|cons _ _ _ _ h1 h2=>exact .cons _ _ _ _ (B0 c h1) (d h2)
def cL.rh{e:TypeId}{d d':D}(h:cL tt B E Pp objs w)(Z:objs[r]? =some (.row e d wr))(Y:E[r]? =some ri)(R:B.E0.length<=r)
 (S:OR tt (E.set r ri') Pp' w' ri' (.row e d' wr)) (I:∀b n c,ri≠ .map b n c)
 (V:w'.os=w.os) (U:w'.tape=w.tape) (z:w'.output=w.output) (fh:w.heap.size<=w'.heap.size)
 (L:∀b,b<w.heap.size->ri.cZ ≠some b->w'.heap[b]? =w.heap[b]?)
 (O:∀ad v,Pp ad v->Pp' ad v) (u:∀ad v,Pp' ad v->Pp ad v\/ri.cZ =some ad.block\/w.heap.size<=ad.block)
 (J:∀b,ri'.cZ =some b->ri.cZ =some b\/w.heap.size<=b)
 (gR:∀ad v,Pp' ad v->pc w' ad=some v) (ag:w.drawn<=w'.drawn:=by first|exact cg _|exact pQ _|assumption):cL tt B (E.set r ri') Pp' ((jw r objs).set r (.row e d' wr)) w':=by
 have hl:=h.wr.len;have hr:=cx Z;have p:∀(i:Nat) x,i≠r->E[i]? =some x->(E.set r ri')[i]? =some x:=by intro i x hi M;rw[bU (dy hi)];exact M
 refine h.wm Z rfl Y yS (λj W=>bU (dy W)) (by rw[bZ yO]) (.inr R) (by simp[lV]) ?_ (by rw[bZ (by rw[lV];exact hr)]) (λ_=>S) V U z fh L O u J gR;intro j ac W k X;rw[bU (dy W),rH]at k;cases M:objs[j]? with
 |none=>rw[M]at k;simp at k
 |some oj=>
  rw[M]at k;simp only[cr,cz]at k;refine⟨oj,rfl,by cases oj<;>simp_all[Ob.live]<;>(subst k;simp at X),?_⟩;intro rj aa o;cases oj with
  |box cs=>
   simp only at k;subst k;cases rj<;>try exact o.elim
   ·obtain⟨vs,T,h1,h2,h3,h4⟩:=o;exact⟨vs,T,h1,D1 p h2,h3,h4.map (Lr r)⟩
   ·exact o.imp λ_ a=>⟨a.1,D1 p a.2.1,a.2.2⟩
  |row=>simp only at k;subst k;cases rj<;>exact o
  |map=>simp only at k;subst k;cases rj<;>exact o
  |diter=>simp only at k;subst k;cases rj<;>exact o
  |iter m s=>
   simp only at k;subst k;cases rj<;>try exact o.elim
   obtain⟨bm,borns,clock,ls,h1,h2⟩:=o;refine⟨bm,borns,clock,ls,p _ _ ?_ h1,h2⟩;rintro rfl;rw[Y]at h1;cases h1;exact I _ _ _ rfl
  |loop n qs c1 c2 s jj=>
   simp only at k;subst k;cases rj<;>try exact o.elim
   obtain⟨r',h1,h2,h3⟩:=o;exact⟨r',h1,h2,λt=>by rw[yq];exact B0 p (h3 t)⟩
  |dead=>simp only at k;subst k;cases rj<;>exact o
def nY.yt{ob:Ob}{v:Value}(m:nY tt E Pp objs w ad v)(hr:r<objs.length)
 (p:∀ad v,Pp ad v->Pp' ad v) (k:∀(i:Nat) x,i≠r->E[i]? =some x->E'[i]? =some x) (hc:∀(i:Nat),i≠r->w.cell? ad=some v->(∃cs,objs[i]? =some (.box cs)/\E[i]? =some (.box ad.block))\/
 (∃e d wr o len cap,objs[i]? =some (.row e d wr)/\E[i]? =some (.row ad.block o len cap))->w'.cell? ad=some v)
 (b:w.cell? ad=some v->((∃cs,objs[r]? =some (.box cs)/\E[r]? =some (.box ad.block))\/(∃e d wr o len cap,objs[r]? =some (.row e d wr)/\E[r]? =some (.row ad.block o len cap)/\ad.off<o+len*(bR tt e).length))->
   nY tt E' Pp' ((jw r objs).set r ob) w' ad v):nY tt E' Pp' ((jw r objs).set r ob) w' ad v:=by
 rcases m with m|⟨j,i,h⟩
 ·exact .inl (p _ _ m)
 ·by_cases c:i=r
  ·subst c;exact b j h
  ·refine .inr ⟨hc i c j ?_,i,?_⟩
   ·rcases h with h|⟨e,d,wr,o,len,cap,h1,h2,h3⟩
    ·exact .inl h
    ·exact .inr ⟨e,d,wr,o,len,cap,h1,h2⟩
   ·rcases h with⟨cs,h1,h2⟩|⟨e,d,wr,o,len,cap,h1,h2,h3⟩
    ·exact .inl ⟨cS (kill r) cs,by rw[bU (dy c),rH,h1];rfl,k _ _ c h2⟩
    ·exact .inr ⟨e,d,wr,o,len,cap,by rw[bU (dy c),rH,h1];rfl,k _ _ c h2,h3⟩
def zM{v:Value}{fr:Nat×Nat}(b:w.heap[ad.block]? =some (.cells ⟨vs⟩ T fr))(h:w.cell? ad=some v):ad.spot.isSome=false/\vs[ad.off]? =some v:=by
 simp only[World.cell?,b]at h;cases hs:ad.spot.isSome with
 |true=>simp[hs]at h
 |false=>simp[hs]at h;exact⟨rfl,h⟩
def kQ(hs:∀t,VR tt E Pp (a.tmps.getD t undef) (look st.s t))(b:∀ad v,Pp ad v->Pp' ad v):∀t,VR tt (E.set r ri') Pp' (a.tmps.getD t undef) (look (lQ r st.s) t):=by intro t;rw[yq];exact(B0 (λi x c d=>by rw[bU (dy c)];exact d) (hs t)).mono (λ_ _ h=>h) b
def vL(ai:ec P tt)(h:cL tt B E Pp st.o w)(hs:∀t,VR tt E Pp (a.tmps.getD t undef) (look st.s t)){o:Oper}{x:Operand}{e:TypeId}
 (Z:o.op= .call { callee:=.builtin .append,args:=C,argTypes:=ts }) (has:C.toList=[x,y]) (aj:ts.toList=[q,f])
 (h1:tt q=some F) (h2:tt f=some G) (af:dZ F=some e) (ae:P.underlying f=some (.slice e)\/P.underlying f=some .string) (al:tt e=some A) (hb:A.bytes<=1024)
 {rows:List (List D)}{news:List Value} (X:Reads tt Pp w e (a.eval y) rows news) (hO:Reads tt Pp w e (a.eval x) olds oldc) (hx:a.eval x= .slice base olds.length cap) (O:olds.length<=cap)
 (hg:cap<olds.length+rows.length) (R:olds.length+rows.length<=4294967296) (J:st.o[r]? =some (.row e (.list olds) wr)) (hE:E[r]? =some ri) (ab:B.E0.length<=r)
 (p:ri= .row0\/∃g V s,ri= .row g V olds.length s)
 (hK:K (.row e r) ⟨lQ r st.s,gU (jw r st.o) r (.row e (.list (olds++rows)) wr)⟩)
:o.wp P a w (dH tt B dV E Pp st.o w o a K) Q:=by
 have W:= @kg _ P w a o x y q f C ts Z has aj;obtain⟨nc,zs,ac,aa,S⟩:=wh (ty:=o.type) h1 h2 af ae al ai X hO hx O hg R hb;have gV:=Mn (zs:=zs) hO.len hO.rd X.len X.rd
 have fh:(oldc++news++zs).length=nc*(bR tt e).length:=by
  simp only[bt,hO.len,X.len,aa,<-c9]
  congr 1;omega
 have L:∀k,k<w.heap.size->(w.drew.alloc (.cells ⟨oldc++news++zs⟩ e)).heap[k]? =w.heap[k]? :=λk hk=>RowKit.Below.heap_alloc w.drew _ k hk;have I:(w.drew.alloc (.cells ⟨oldc++news++zs⟩ e)).heap[w.heap.size]? =some (.cells ⟨oldc++news++zs⟩ e (0,0)):=eh w.drew _;generalize u:w.drew.alloc (.cells ⟨oldc++news++zs⟩ e)=w' at*;have aw:w.drawn<=w'.drawn:=by rw[<- u];exact pQ _
 let Pp':fE:=λad v=>Pp ad v\/(wr=false/\ad.block=w.heap.size/\ad.off<(olds.length+rows.length)*(bR tt e).length/\w'.cell? ad=some v)\/
  (w.cell? ad=some v/\ri.cZ =some ad.block/\∃g V s,ri= .row g V olds.length s/\ad.off<V+olds.length*(bR tt e).length)
 have z:∀ad v,w.cell? ad=some v->w'.cell? ad=some v:=λad v hc=>by rw[sZ (L _ (World.block_lt_of_cell? w ad hc))];exact hc
 have U:=cx J
 have hS:cL tt B (E.set r (.row w.heap.size 0 (olds.length+rows.length) nc)) Pp' ((jw r st.o).set r (.row e (.list (olds++rows)) wr)) w':=by
  refine h.rh J hE ab ?_ ?_ (by rw[<- u];rfl) (by rw[<- u];rfl) (by rw[<- u];rfl) (by rw[<- u];simp) (λb hb _=>L b hb) (λ_ _ h=>.inl h) ?_ (λb hb=>.inr ?_) ?_
  ·refine⟨_,e,olds++rows,I,rfl,yS,ac,yO,?_,?_,?_⟩
   ·intro k row hk;obtain⟨e1,e2⟩:=gV k row hk;refine⟨e1,λj d ck hj am=>?_⟩;obtain⟨v,m,hr⟩:=e2 j d ck hj am;exact⟨v,by rw[dW];exact m,hr.mono (λ_ _ h=>.inl h)⟩
   ·intro M ad v m;rcases m with m|⟨hf,_⟩|⟨hc,_⟩
    ·exact kj h.wr ad v m
    ·rw[M]at hf;cases hf
    ·have:=World.block_lt_of_cell? w ad hc;omega
   ·intro M;refine⟨?_,?_⟩
    ·intro i j v hi hj m;refine .inr (.inl ⟨M,rfl,?_,?_⟩)
     ·show 0+i*(bR tt e).length+j<_;have:=ig hi hj;omega
     ·rw[eC I];exact m
    ·intro ad v m Y;rcases m with m|⟨_,_,c8,_⟩|⟨hc,_⟩
     ·exact absurd Y (kj h.wr ad v m)
     ·rw[dW];exact .inr c8
     ·have:=World.block_lt_of_cell? w ad hc;omega
  ·rintro b n c rfl;rcases p with p|⟨_,_,_,p⟩<;>cases p
  ·intro ad v m;rcases m with m|⟨_,hb,_⟩|⟨_,hb,_⟩
   ·exact .inl m
   ·exact .inr (.inr yO)
   ·exact .inr (.inl hb)
  ·simp[RI.cZ]at hb;omega
  ·intro ad v m;rcases m with m|⟨_,_,_,hc⟩|⟨hc,_⟩
   ·rw[gF (L _ (xY (h.wr.pi ad v m)))];exact h.wr.pi ad v m
   ·exact gm hc
   ·exact gm (z ad v hc)
 refine dX (W S) ?_;rw[fV]at hK;refine dH.mk (.row _ _ _ _ _ _ (by rw[bZ (by rw[h.wr.len];exact U)])) (kQ hs (λ_ _ h=>.inl h)) hS hK ?_;intro _ ad v m;refine m.yt U (λ_ _ h=>.inl h) (λi x hi hx=>by rw[bU (dy hi)];exact hx) (λi _ hc _=>z ad v hc) ?_;intro hc ho;rcases ho with⟨cs,h3,_⟩|⟨e',d',au,o',an,s,h3,h4,h5⟩
 ·rw[J]at h3;cases h3
 ·rw[J]at h3;cases h3;rw[hE]at h4;cases h4;rcases p with p|⟨g,V,ao,p⟩
  ·cases p
  ·cases p;exact .inl (.inr (.inr ⟨hc,rfl,_,_,_,rfl,h5⟩))
def Dn(aA:ec P tt)(h:cL tt B E Pp st.o w)(hs:∀t,VR tt E Pp (a.tmps.getD t undef) (look st.s t)){o:Oper}{x:Operand}{e:TypeId}
 (aq:o.op= .call { callee:=.builtin .append,args:=C,argTypes:=ts }) (has:C.toList=[x,y]) (aB:ts.toList=[q,f])
 (h1:tt q=some F) (h2:tt f=some G) (ay:dZ F=some e) (aw:P.underlying f=some (.slice e)\/P.underlying f=some .string) (aD:tt e=some A)
 {rows:List (List D)}{news:List Value} (hR:Reads tt Pp w e (a.eval y) rows news) {u:Nat} (hx:a.eval x= .slice (some ⟨g,u,none⟩) olds.length cap)
 (J:olds.length+rows.length<=cap) (L:st.o[r]? =some (.row e (.list olds) wr)) (hE:E[r]? =some (.row g u olds.length cap)) (av:B.E0.length<=r)
 (hK:K (.row e r) ⟨lQ r st.s,gU (jw r st.o) r (.row e (.list (olds++rows)) wr)⟩)
:o.wp P a w (dH tt B dV E Pp st.o w o a K) Q:=by
 have Z:= @kg _ P w a o x y q f C ts aq has aB;obtain⟨ri,ao,ax⟩:=h.wr.ob r _ L rfl;rw[hE]at ao;cases ao;obtain⟨vs,T,ap,hg,aE,hl,aG,fh,dG,an,am⟩:=ax;cases aE;generalize O:(bR tt e).length=S at*;have ai:=hR.len;rw[O]at ai;have aF:(olds.length+rows.length)*S<=cap*S:=cW _ J;rw[c9]at aF;have Y:=EC (ty:=o.type) (n:=olds.length) (o:=u) (cur:=vs) h1 h2 ay aw aD aA hR hg J (by rw[O];omega);rw[O]at Y;rw[hx]at Z;generalize z:w.setRow g ⟨vs.take (u+olds.length*S)++news++vs.drop (u+olds.length*S+news.length)⟩=w' at*;have aK:w.drawn<=w'.drawn:=by rw[<- z];exact cg _
 have W:w'.heap[g]? =some (.cells ⟨vs.take (u+olds.length*S)++news++vs.drop (u+olds.length*S+news.length)⟩ e (0,0)):=by rw[<- z];exact setRow_heap w g _ _ _ _ hg
 have R:∀k,k≠g->w'.heap[k]? =w.heap[k]? :=λk hk=>by rw[<- z];exact setRow_other w g k _ hk
 have X:=cx L
 have M:∀ad v,w.cell? ad=some v->(ad.block=g->cap=0\/ad.off<u+olds.length*S)->w'.cell? ad=some v:=by
  intro ad v hc c8;by_cases p:ad.block=g
  ·have c8:=c8 p;obtain⟨h3,h4⟩:=zM (by rw[p];exact hg) hc;simp only[World.cell?,p,W,h3,cv,if_false]
   have af:¬(u+olds.length*S<=ad.off/\ad.off<u+olds.length*S+news.length):=by
    rcases c8 with h0|c8
    ·have:rows.length=0:=yO;rw[this,Nat.zero_mul]at ai;omega
    ·omega
   rw[<- fW,jP yO,if_neg af];exact h4
  ·rw[sZ (R _ p)];exact hc
 let Pp':fE:=λad v=>Pp ad v\/(wr=false/\ad.block=g/\ad.off<u+(olds.length+rows.length)*S/\w'.cell? ad=some v)
 have al:cL tt B (E.set r (.row g u (olds.length+rows.length) cap)) Pp' ((jw r st.o).set r (.row e (.list (olds++rows)) wr)) w':=by
  refine h.rh L hE av ?_ (λb n c hc=>yC hc) (by rw[<- z];rfl) (by rw[<- z];rfl) (by rw[<- z];rfl) (by rw[<- z];simp) ?_ (λ_ _ h=>.inl h) ?_ (λb hb=>.inl hb) ?_
  ·refine⟨_,T,olds++rows,W,rfl,yS,J,by rw[O];simp;omega,?_,?_,?_⟩
   ·intro k row hk;rw[O];rcases ju hk with⟨c8,h3⟩|⟨k',rfl,h3⟩
    ·obtain⟨e1,e2⟩:=dG k row h3;rw[O]at e1 e2;refine⟨e1,λj d ck hj V=>?_⟩;obtain⟨v,m,hr⟩:=e2 j d ck hj V;have U:=cx V;rw[O]at U;have:=ig c8 U;exact⟨v,by rw[jP yO,if_neg yO];exact m,hr.mono (λ_ _ h=>.inl h)⟩
    ·obtain⟨e1,e2⟩:=hR.rd k' row h3;rw[O]at e1 e2;refine⟨e1,λj d ck hj V=>?_⟩;obtain⟨v,m,hr⟩:=e2 j d ck hj V;have U:=cx V;rw[O]at U;have:=ig (cx h3) U;refine⟨v,?_,hr.mono (λ_ _ h=>.inl h)⟩;rw[jP yO,if_pos (by rw[c9];omega),show u+(olds.length+k')*S+j-(u+olds.length*S)=k'*S+j by rw[c9];omega];exact m
   ·intro s ad v m;rcases m with m|⟨hf,_⟩
    ·exact an s ad v m
    ·rw[s]at hf;cases hf
   ·intro s;obtain⟨_,aa⟩:=am s;rw[O];refine⟨?_,?_⟩
    ·intro i j v hi hj m;refine .inr ⟨s,rfl,?_,?_⟩
     ·show u+i*S+j<_;have:=ig hi hj;omega
     ·rw[eC W];exact m
    ·intro ad v m I;rcases m with m|⟨_,_,c8,_⟩
     ·have:=aa ad v m I;rw[c9];omega
     ·exact .inr c8
  ·intro b _ hb;exact R b (λe=>hb (by rw[e];rfl))
  ·intro ad v m;rcases m with m|⟨_,hb,_⟩
   ·exact .inl m
   ·exact .inr (.inl (by rw[hb];rfl))
  ·intro ad v m;rcases m with m|⟨_,_,_,hc⟩
   ·by_cases p:ad.block=g
    rotate_left
    ·rw[gF (R _ p)];exact h.wr.pi ad v m
    by_cases aj:ad.spot=some 1
    ·exact Oa (h.wr.pi ad v m) (by rw[p];exact hg) (by rw[p];exact W) (show iS _=iS _ by simp only[bt,cJ,jO];omega) aj
    refine gm (M ad v (KV (h.wr.pi ad v m) (by rw[p];exact hg) aj) (λI=>?_));cases s:wr with
    |true=>exact absurd I (an s ad v m)
    |false=>obtain⟨_,aa⟩:=am s;exact aa ad v m I
   ·exact gm hc
 refine dX (Z Y) ?_;rw[fV]at hK;refine dH.mk (.row _ _ _ _ _ _ (by rw[bZ (by rw[h.wr.len];exact X)])) (kQ hs (λ_ _ h=>.inl h)) al hK ?_;intro _ ad v m;refine m.yt X (λ_ _ h=>.inl h) (λi x hi hx=>by rw[bU (dy hi)];exact hx) ?_ ?_
 ·intro i hi hc ho;refine M ad v hc (λI=>?_);exfalso;rcases ho with⟨cs,h3,h4⟩|⟨e',d',ar,o',ag,ac,h3,h4⟩
  ·exact hi (h.wr.sep i r _ _ _ _ g h3 L rfl rfl h4 hE (by rw[I];rfl) rfl)
  ·exact hi (h.wr.sep i r _ _ _ _ g h3 L rfl rfl h4 hE (by rw[I];rfl) rfl)
 ·intro hc ho;rcases ho with⟨cs,h3,_⟩|⟨e',d',ar,o',ag,ac,h3,h4,h5⟩
  ·rw[L]at h3;cases h3
  ·rw[L]at h3;cases h3;rw[hE]at h4;simp only[cz,RI.row.injEq]at h4;obtain⟨q1,q2,q3,q4⟩:=h4;rw[O]at h5;refine .inr ⟨M ad v hc (λ_=>.inr (by rw[q2,q3];exact h5)),r,.inr ⟨e,_,wr,u,olds.length+rows.length,cap,by rw[bZ (by rw[lV];exact X)],?_,?_⟩⟩
   ·rw[bZ (by rw[h.wr.len];exact X),<-q1]
   ·rw[O,c9];rw[<- q2,<-q3]at h5;omega
def Dp(am:ec P tt)(h:cL tt B E Pp st.o w)(hs:∀t,VR tt E Pp (a.tmps.getD t undef) (look st.s t)){o:Oper}{e:TypeId}{x:Operand}{lo:Option Operand}
 (af:o.op= .slice t x lo none none) (az:tt t=some ti) (he:dZ ti=some e) (ap:tt e=some A) {d:D} (ag:st.o[r]? =some (.row e d wr))
 (u:VR tt E Pp (a.eval x) (.row e r)) (ai:B.E0.length<=r) (au:0<=l) (ao:l<=((cn d).length:Int)) (aA:(lo=none/\l=0)\/∃y k,lo=some y/\a.eval y= .int k l)
 (hK:K (.row e r) ⟨lQ r st.s,gU (jw r (fw [r] 0 st.o)) r (.row e (dz.part d l (dz.len d)) false)⟩)
:o.wp P a w (dH tt B dV E Pp st.o w o a K) Q:=by
 have h1:=h.mN [r];have aj:∀t,VR tt E (gK tt E st.o w Pp [r]) (a.tmps.getD t undef) (look st.s t):=λt=>(hs t).mono (λ_ _ h=>h) (λ_ _ h=>.inl h);have m:(fw [r] 0 st.o)[r]? =some (.row e d false):=by rw[jr,ag];simp[eI,vZ]
 have I:r<(fw [r] 0 st.o).length:=cx m;have ae:r<E.length:=by rw[h1.wr.len];exact I
 have hu:=((am _ _ az).slice he).1;have al:=(am _ _ ap).run (P:=P) w;have an:bR tt e=A.bT:=by simp[bR,ap]
 have ab:∀len cap:Nat,(cn d).length=len->len<=cap->(Instr.sliceBounds true len cap (lo.map a.eval) none none).run P w= .ok (l.toNat,len,cap) w:=by
  intro len cap L J;simp only[Instr.sliceBounds,zw,Sem.run_bind,Sem.run_pure,Result.andThen_ok];rcases aA with⟨rfl,rfl⟩|⟨x1,H,rfl,e1⟩
  ·simp
  ·simp[e1,ez (P:=P) (w:=w) (k:=H) (n:=l) (y:=len) ⟨au,yO⟩]
 obtain⟨ri,p,Y⟩:=h1.wr.ob r _ m rfl;generalize hx:a.eval x=vx at u;cases u with
 |row0 _ _ hE=>
  rw[p]at hE;cases hE;simp only[OR]at Y;subst Y;obtain rfl:l=0:=by simp[cn]at ao;omega
  have s:(execOp a.eval o).run P w= .ok (.value (.slice none 0 0)) w:=by simp[execOp,af,hx,Instr.sliceAt,run_underlying hu,Instr.slice,ab 0 0 rfl (cg _),al.2.1]
  have W:=h1.rh (d':=dz.part (.list []) 0 (dz.len (.list []))) (ri':=.row0) (w':=w) m p ai (by simp only[OR];rfl) (λb n c hc=>yC hc) rfl rfl rfl (cg _) (λb _ _=>rfl) (λ_ _ h=>h) (λ_ _ h=>.inl h) (λb hb=>by simp[RI.cZ]at hb) h1.wr.pi;refine dX s ?_;rw[fV]at hK;refine dH.mk (.row0 _ _ (by rw[bZ ae])) (kQ aj (λ_ _ h=>h)) W hK ?_ (λ_ _ h=>.inl h);intro _ ad v u;refine(u.mN [r]).yt I (λ_ _ h=>h) (λi x V hx=>by rw[bU (dy V)];exact hx) (λi _ hc _=>hc) ?_;intro hc ho;rcases ho with⟨cs,h3,_⟩|⟨e',d',av,o',U,R,h3,h4,h5⟩
  ·rw[m]at h3;cases h3
  ·rw[p]at h4;cases h4
 |row _ _ g z len cap hE=>
  rw[p]at hE;cases hE;obtain⟨vs,T,rows,hg,aB,L,J,eO,dG,aK,O⟩:=Y;subst aB;have O:=O rfl;generalize W:(bR tt e).length=S at*;obtain⟨k,rfl⟩:∃k:Nat,l=k:=⟨l.toNat,yO⟩;simp only[cn]at ao ab;have hk:k<=len:=yO
  have s:(execOp a.eval o).run P w= .ok (.value (.slice (some (if cap=k then(⟨g,z,none⟩:Addr)else⟨g,z+k*S,none⟩)) (len-k) (cap-k))) w:=by
   have:(if cap=k then some (⟨g,z,none⟩:Addr)else some ⟨g,z+k*S,none⟩)=some (if cap=k then(⟨g,z,none⟩:Addr)else⟨g,z+k*S,none⟩):=by split<;>rfl
   rw[<- this];rw[an]at W;simp[execOp,af,hx,Instr.sliceAt,run_underlying hu,Instr.slice,ab len cap L J,al.2.1,W,fg]
  have X:dz.part (.list rows) (k:Int) (dz.len (.list rows))= .list (rows.drop k):=by show D.list ((rows.drop (k:Int).toNat).take (((rows.length:Nat):Int).toNat-(k:Int).toNat))=_;simp only[ej];rw[db yS]
  rw[X]at hK;obtain⟨o1,M⟩:∃o1,o1=(if cap=k then z else z+k*S):=⟨_,rfl⟩;have ax:(if cap=k then(⟨g,z,none⟩:Addr)else⟨g,z+k*S,none⟩)=⟨g,o1,none⟩:=by rw[M];split<;>rfl
  rw[ax]at s;have ak:(len-k)*S=len*S-k*S:=Nat.sub_mul _ _ _;have Z:(cap-k)*S=cap*S-k*S:=Nat.sub_mul _ _ _;have aD:k*S<=len*S:=cW _ hk;have aF:len*S<=cap*S:=cW _ J
  have ay:=h1.rh (d':=.list (rows.drop k)) (ri':=.row g o1 (len-k) (cap-k)) (w':=w) m p ai (by
   refine⟨vs,T,rows.drop k,hg,rfl,by simp[L],yO,?_,?_,yS,λ_=>⟨?_,?_⟩⟩
   ·rw[W,Z,M];split<;>omega
   ·intro i row V;rw[eM]at V;have c8:k+i<rows.length:=cx V;obtain⟨a1,a2⟩:=dG (k+i) row V;rw[W]at a1 a2 ⊢;refine⟨a1,λj dd ck hj aa=>?_⟩;obtain⟨v,b1,b2⟩:=a2 j dd ck hj aa;refine⟨v,?_,b2⟩;rw[<- b1,M,if_neg yO,c9];congr 1;omega
   ·intro i j v V hj u;rw[W]at hj u ⊢;rw[M,if_neg yO]at u ⊢;have hh:=O.1 (k+i) j v yO hj;rw[c9]at hh;have e3:z+k*S+i*S+j=z+(k*S+i*S)+j:=yO;rw[e3]at u ⊢;exact hh u
   ·intro ad v u hb;rw[W,ak,M];rcases O.2 ad v u hb with h0|h0
    ·left;omega
    ·by_cases aa:cap=k
     ·left;omega
     ·right;rw[if_neg aa];omega) (λb n c hc=>yC hc) rfl rfl rfl (cg _) (λb _ _=>rfl) (λ_ _ h=>h) (λ_ _ h=>.inl h) (λb hb=>.inl hb) h1.wr.pi
  refine dX s ?_;rw[fV]at hK;refine dH.mk (.row _ _ _ _ _ _ (by rw[bZ ae])) (kQ aj (λ_ _ h=>h)) ay hK ?_ (λ_ _ h=>.inl h);intro _ ad v u;refine(u.mN [r]).yt I (λ_ _ h=>h) (λi x V hx=>by rw[bU (dy V)];exact hx) (λi _ hc _=>hc) ?_;intro hc ho;rcases ho with⟨cs,h3,_⟩|⟨e',d',av,o',U,R,h3,h4,h5⟩
  ·rw[m]at h3;cases h3
  ·rw[p]at h4;simp only[cz,RI.row.injEq]at h4;obtain⟨q1,q2,q3,q4⟩:=h4;rw[m]at h3;cases h3;refine .inl (.inr ⟨hc,r,yS,.inr ⟨o',U,R,e,.list rows,wr,by rw[p,<-q1,q2,q3,q4],ag,h5⟩⟩)
def Dq(O:ec P tt)(h:cL tt B E Pp st.o w)(hs:∀t,VR tt E Pp (a.tmps.getD t undef) (look st.s t)){o:Oper}{e:TypeId}{x:Operand}
 (J:o.op= .slice t x none (some y) none) (aa:tt t=some ti) (he:dZ ti=some e) (U:tt e=some A) {d:D} (s:st.o[r]? =some (.row e d true))
 (hv:VR tt E Pp (a.eval x) (.row e r)) (Z:B.E0.length<=r) (I:0<((cn d).length:Int)) (W:0<=l) (ae:l<=((cn d).length:Int)) (e1:a.eval y= .int H l) (hq:eu dV.2=false)
 (hK:K (.row e r) ⟨lQ r st.s,gU (jw r st.o) r (.row e (dz.part d 0 l) true)⟩)
:o.wp P a w (dH tt B dV E Pp st.o w o a K) Q:=by
 have X:r<E.length:=by rw[h.wr.len];exact cx s
 have hu:=((O _ _ aa).slice he).1;have ab:=(O _ _ U).run (P:=P) w;have R:bR tt e=A.bT:=by simp[bR,U]
 have V:∀len cap:Nat,(cn d).length=len->len<=cap->(Instr.sliceBounds true len cap none (some (a.eval y)) none).run P w= .ok (0,l.toNat,cap) w:=by intro len cap p m;simp only[Instr.sliceBounds,Sem.run_bind,Sem.run_pure,Result.andThen_ok];simp[e1,ez (P:=P) (w:=w) (k:=H) (n:=l) (y:=cap) ⟨W,yO⟩]
 obtain⟨ri,z,v⟩:=h.wr.ob r _ s rfl;generalize hx:a.eval x=vx at hv;cases hv with
 |row0 _ _ L=>rw[z]at L;cases L;simp only[OR]at v;subst v;simp[cn]at I
 |row _ _ g o0 len cap L=>
  rw[z]at L;cases L;obtain⟨vs,T,rows,hg,ag,p,m,eO,dG,ah,ao⟩:=v;subst ag;generalize hS:(bR tt e).length=S at*;obtain⟨k,rfl⟩:∃k:Nat,l=k:=⟨l.toNat,yO⟩;simp only[cn]at ae V I;have hk:k<=len:=yO;have M:(execOp a.eval o).run P w= .ok (.value (.slice (some (⟨g,o0,none⟩:Addr)) k cap)) w:=by rw[R]at hS;simp[execOp,J,hx,Instr.sliceAt,run_underlying hu,Instr.slice,V len cap p m,ab.2.1,hS,fg]
  have u:dz.part (.list rows) 0 (k:Int)= .list (rows.take k):=by show D.list ((rows.drop (0:Int).toNat).take ((k:Int).toNat-(0:Int).toNat))=_;simp
  rw[u]at hK;have ak:k*S<=len*S:=cW _ hk;have Y:=h.rh (d':=.list (rows.take k)) (ri':=.row g o0 k cap) (w':=w) s z Z (by refine⟨vs,T,rows.take k,hg,rfl,yQ,yO,by rw[hS];exact eO,?_,ah,yS⟩;intro i row hi;have c8:=cx hi;simp at c8;rw[cK yO]at hi;exact dG i row hi) (λb n c hc=>yC hc) rfl rfl rfl (cg _) (λb _ _=>rfl) (λ_ _ h=>h) (λ_ _ h=>.inl h) (λb hb=>.inl hb) h.wr.pi;refine dX M ?_;rw[fV]at hK;refine dH.mk (.row _ _ _ _ _ _ (by rw[bZ X])) (kQ hs (λ_ _ h=>h)) Y hK (λj=>?_) (λ_ _ h=>h);rw[J]at j;simp only[fM]at j;rw[hq]at j;cases j
def FA(z:ec P tt)(h:cL tt B E Pp st.o w)(hs:∀t,VR tt E Pp (a.tmps.getD t undef) (look st.s t)){o:Oper}{e:TypeId}{x:Operand}
 (O:o.op= .slice t x (some y) none none) (U:tt t=some ti) (he:dZ ti=some e) (J:tt e=some A) {d:D} (R:st.o[r]? =some (.row e d wr))
 (Z:VR tt E Pp (a.eval x) (.row e r)) (M:0<((cn d).length:Int)) (p:0<=l) (W:l<=((cn d).length:Int)) (e1:a.eval y= .int H l)
 (hK:K (.fH e r l dB) st)
:o.wp P a w (dH tt B dV E Pp st.o w o a K) Q:=by
 have hu:=((z _ _ U).slice he).1;have V:=(z _ _ J).run (P:=P) w;have I:bR tt e=A.bT:=by simp[bR,J]
 have L:∀len cap:Nat,(cn d).length=len->len<=cap->(Instr.sliceBounds true len cap (some (a.eval y)) none none).run P w= .ok (l.toNat,len,cap) w:=by intro len cap i c;simp only[Instr.sliceBounds,Sem.run_bind,Sem.run_pure,Result.andThen_ok];simp[e1,ez (P:=P) (w:=w) (k:=H) (n:=l) (y:=len) ⟨p,yO⟩]
 obtain⟨ri,m,j⟩:=h.wr.ob r _ R rfl;generalize hx:a.eval x=vx at Z;cases Z with
 |row0 _ _ s=>rw[m]at s;cases s;simp only[OR]at j;subst j;simp[cn]at M
 |row _ _ g b len cap s=>
  rw[m]at s;cases s;obtain⟨vs,T,rows,hg,Y,i,c,eO,dG,ae,ac⟩:=j;subst Y;generalize X:(bR tt e).length=S at*;obtain⟨k,rfl⟩:∃k:Nat,l=k:=⟨l.toNat,yO⟩;simp only[cn]at W L;have hk:k<=len:=yO
  have u:(execOp a.eval o).run P w= .ok (.value (.slice (some (if cap=k then(⟨g,b,none⟩:Addr)else⟨g,b+k*S,none⟩)) (len-k) (cap-k))) w:=by
   have:(if cap=k then some (⟨g,b,none⟩:Addr)else some ⟨g,b+k*S,none⟩)=some (if cap=k then(⟨g,b,none⟩:Addr)else⟨g,b+k*S,none⟩):=by split<;>rfl
   rw[<- this];rw[I]at X;simp[execOp,O,hx,Instr.sliceAt,run_underlying hu,Instr.slice,L len cap i c,V.2.1,X,fg]
  refine dX u ?_;refine dH.mk (.fH _ _ _ _ _ g b len cap m p ⟨λhn=>absurd rfl hn,λ_=>⟨⟨if cap=k then b else b+k*S,?_,?_⟩,yO⟩⟩) hs h hK (λ_ ad v h=>h) (λ_ _ h=>h)
  ·simp only[ej];split<;>rfl
  ·simp only[ej,X];split
   ·right;omega
   ·left;rfl
def zO(O:ec P tt)(h:cL tt B E Pp st.o w)(hs:∀t,VR tt E Pp (a.tmps.getD t undef) (look st.s t)){o:Oper}{x:Operand}{e:TypeId}
 (I:o.op= .call { callee:=.builtin .append,args:=C,argTypes:=ts }) (has:C.toList=[x,y]) (R:ts.toList=[q,f])
 (h1:tt q=some F) (h2:tt f=some G) (M:dZ F=some e) (L:P.underlying f=some (.slice e)\/P.underlying f=some .string) (S:tt e=some A) (hb:A.bytes<=1024)
 {rows:List (List D)}{news:List Value} (hR:Reads tt Pp w e (a.eval y) rows news) (hx:VR tt E Pp (a.eval x) (.row e r)) {d:D} (ai:ew st.o r= .row e d wr) (J:B.E0.length<=r)
 (V:dz.len d+rows.length<=4294967296) (hK:K (.row e r) ⟨lQ r st.s,gU (jw r st.o) r (.row e (dz.app d (.list rows)) wr)⟩)
:o.wp P a w (dH tt B dV E Pp st.o w o a K) Q:=by
 have m:=cT ai rfl;have ab:=cx m;obtain⟨ri,U,aa⟩:=h.wr.ob r _ m rfl;generalize p:a.eval x=vx at hx;cases hx with
 |row0 _ _ z=>
  rw[z]at U;cases U;have:d= .list []:=aa;subst this;by_cases h0:rows=[]
  ·subst h0;have W:= @kg _ P w a o x y q f C ts I has R;rw[p]at W;have Z:=qM (ty:=o.type) (n:=0) (cap:=0) (base:=none) h1 h2 M L S O hR (cg _);refine dX (W Z) ?_;rw[fV]at hK
   have ah:E.set r .row0=E:=by
    apply pD;intro i;by_cases hi:i=r
    ·subst hi;rw[bZ (by rw[h.wr.len];exact ab),z]
    ·rw[bU (dy hi)]
   have hS:=h.rh (d':=dz.app (.list []) (.list [])) (ri':=.row0) (w':=w) (Pp':=Pp) m z J rfl (λb n c hc=>yC hc) rfl rfl rfl (cg _) (λ_ _ _=>rfl) (λ_ _ h=>h) (λ_ _ h=>.inl h) (λb hb=>by simp[RI.cZ]at hb) h.wr.pi;refine dH.mk (.row0 _ _ (by rw[ah];exact z)) (kQ hs (λ_ _ h=>h)) hS hK ?_;intro _ ad v hv;refine hv.yt ab (λ_ _ h=>h) (λi x hi hx=>by rw[bU (dy hi)];exact hx) (λi _ hc _=>hc) ?_;intro hc ho;rcases ho with⟨cs,h3,_⟩|⟨e',d',ao,o',al,ak,h3,h4,h5⟩
   ·rw[m]at h3;cases h3
   ·rw[z]at h4;cases h4
  ·have Y:0<rows.length:=gx.2 h0;exact vL (olds:=[]) (oldc:=[]) (base:=none) (cap:=0) O h hs I has R h1 h2 M L S hb hR ⟨yS,.inl ⟨none,p,rfl⟩,λk row h=>yE h⟩ p (cg _) (yU Y) (by simp[cn]at V ⊢;omega) m z J (.inl rfl) (by simpa[cn]using hK)
 |row _ _ g o0 len cap z=>
  rw[z]at U;cases U;obtain⟨vs,T,olds,hg,rfl,hl,s,fh,dG,aw,av⟩:=aa;subst hl;have ac:K (.row e r) ⟨lQ r st.s,gU (jw r st.o) r (.row e (.list (olds++rows)) wr)⟩:=by simpa[cn]using hK
  by_cases X:olds.length+rows.length<=cap
  ·exact Dn O h hs I has R h1 h2 M L S hR p X m z J ac
  ·have au:olds.length*(bR tt e).length<=cap*(bR tt e).length:=cW _ s;obtain⟨e1,e2⟩:=dG.reads rfl yO;refine vL O h hs I has R h1 h2 M L S hb hR ⟨e1,.inr (.inl ⟨g,o0,cap,p,s,?_⟩),e2⟩ p s yO (by simp[cn]at V;omega) m z J (.inr ⟨g,o0,cap,rfl⟩) ac;intro j u hj;have c8:=cx hj;rw[e1]at c8;rw[cK c8,eM]at hj;rw[eC hg];exact hj
end
end
section
variable [Inhabited pB]
open Go
section
variable {P:Program}{tt:TypeId->Option TI}{N:Nat}{B:jc}{E:List RI}{Pp:fE}{objs:List Ob}{w:World}{st:St}{a:Act}{dV:List FuncId×List FuncId}
variable {o:Oper}{K:PV->St->Prop}{Q:Exit->Act->World->Prop}{t:TypeId}{F A ti:TI}{m it:Operand}{r cl G:Nat}{C:IntKind}{n:Int}{seen:D}{p p0:PV}{ok:Bool}{bs H:List Nat}{I:Array MapEntry}{cs:List PV}
def kX:CK->TypeDesc
 | .int k=>.int k
 | .str=>.string
 |_=>.bool
theorem D2{kt:TypeId}{kc:CK}(h:jl P kt F)(ha:F.agg=false)(hc:F.bT=[kc])(hs:gO kc=true):P.underlying kt=some (kX kc):=by obtain⟨i,z,d,f,_,hb,hz,b,_,c,e⟩:=h.info;cases kc<;>simp[gO]at hs<;>cases d<;>simp_all[kX]
theorem Mv(a b:ByteArray):(a==b)=(a.data.toList==b.data.toList):=(Array.beq_toList a.data b.data).symm
theorem Fy{kc:CK}(hs:gO kc=true){u v:Value}{d d':D}(hu:RD tt Pp kc u d)(b:RD tt Pp kc v d'):Instr.sameNow (kX kc) u v=some (ny d d'):=by cases hu<;>cases b<;>simp_all[gO,kX,Instr.sameNow,ny,Mv]
theorem Df{kc:CK}(hs:gO kc=true){u v:Value}{d d':D}(hu:RD tt Pp kc u d)(b:RD tt Pp kc v d')(h:ny d d'=true)(n:Nat):Instr.sameBits n v u=true:=by cases hu<;>cases b<;>simp_all[gO,Instr.sameBits,ny,Mv]
theorem oE{kc:CK}(hs:gO kc=true){v:Value}{d:D}(h:KD tt Pp kc v d):RD tt Pp kc v d:=by
 rcases h with h|⟨rfl,_⟩
 ·exact h.2
 ·simp[gO]at hs
def rO(tt:TypeId->Option TI)(Pp:fE)(kc:CK)(e:TypeId)(es:List MapEntry)(rows:List (List D)):Prop:=es.length=rows.length/\∀(i:Nat)(x:MapEntry)(row:List D),es[i]? =some x->rows[i]? =some row->uy tt Pp kc e x row
theorem rO.tail{kc:CK}{e:TypeId}{x:MapEntry}{es:List MapEntry}{row:List D}{rows:List (List D)}(h:rO tt Pp kc e (x::es) (row::rows)):uy tt Pp kc e x row/\rO tt Pp kc e es rows:=⟨h.2 0 x row rfl rfl,yU h.1,λi y r h1 h2=>h.2 (i+1) y r (yU h1) (yU h2)⟩
theorem yM{kc:CK}(hs:gO kc=true){e:TypeId}{k:Value}{kd:D}(hk:RD tt Pp kc k kd):∀(es:List MapEntry)(rows:List (List D))(n:Nat),rO tt Pp kc e es rows->
 (∃i x row,es[i]? =some x/\rows[i]? =some row/\eP kd row=true/\rows.any (eP kd)=true/\rows.find? (eP kd)=some row/\(∀vs,iO kd vs rows=rows.set i (kd::vs))/\rows.eraseP (eP kd)=rows.eraseIdx i/\Instr.findNow (kX kc) k es n=some (some (n+i,x.val)))\/
 (rows.any (eP kd)=false/\(∀vs,iO kd vs rows=rows++[kd::vs])/\rows.eraseP (eP kd)=rows/\Instr.findNow (kX kc) k es n=some none)
 |[],rows,n,h=>by have:=h.1;have:rows=[]:=bY (yU this.symm);subst this;exact .inr ⟨rfl,λ_=>rfl,rfl,rfl⟩
 |x::es,[],n,h=>by have:=h.1;simp at this
 |x::es,row::rows,n,h=>by
  obtain⟨⟨d,vd,rfl,hr,_⟩,g⟩:=h.tail;have f:=Fy hs hk (oE hs hr);have b:eP kd (d::vd)=ny kd d:=rfl;cases c:ny kd d with
  |true=>refine .inl ⟨0,x,d::vd,rfl,rfl,by rw[b,c],by simp[b,c],by simp[b,c],λvs=>by simp[iO,b,c],by simp[b,c],?_⟩;simp[Instr.findNow,f,c]
  |false=>
   rcases yM hs hk es rows (n+1) g with⟨i,y,r,h1,h2,h3,h4,h5,h6,h8,h7⟩|⟨h1,h2,h8,h3⟩
   ·refine .inl ⟨i+1,y,r,yU h1,yU h2,h3,by simp[h4],by simp[b,c,h5],λvs=>by simp[iO,b,c,h6],by simp[b,c,h8],?_⟩;simp only[Instr.findNow,f,c];rw[h7,show n+1+i=n+(i+1)by omega]
   ·exact .inr ⟨by simp[b,c,h1],λvs=>by simp[iO,b,c,h2],by simp[b,c,h8],by simp[Instr.findNow,f,c,h3]⟩
theorem qL{kt:TypeId}{kc:CK}(hs:gO kc=true)(hu:P.underlying kt=some (kX kc)){k:Value}{kd:D}(hk:RD tt Pp kc k kd)(b:Bool):(Instr.checkKey b 10000 kt k).run P w= .ok () w:=by
 have he:∀n,(Instr.checkKey b (n+1) kt k).run P w= .ok () w:=by intro n;cases hk<;>simp[gO]at hs<;>simp[Instr.checkKey,run_underlying hu,kX]
 exact he 9999
theorem yN{kt:TypeId}{kc:CK}(hu:P.underlying kt=some (kX kc)){k:Value}{es:List MapEntry}{r:Option (Nat×Value)}(h:Instr.findNow (kX kc) k es 0=some r):(Instr.findKey kt k es).run P w= .ok r w:=by simp[Instr.findKey,run_underlying hu,h]
structure Vo (P:Program) (tt:TypeId->Option TI) (kt:TypeId) (kc:CK):Prop where
 find:∀{Pp:fE}{e:TypeId}{k:Value}{kd:D}(w:World),KD tt Pp kc k kd->∀(es:List MapEntry)(rows:List (List D)),rO tt Pp kc e es rows->
  (∃i x row,es[i]? =some x/\rows[i]? =some row/\eP kd row=true/\rows.any (eP kd)=true/\rows.find? (eP kd)=some row/\(∀vs,iO kd vs rows=rows.set i (kd::vs))/\rows.eraseP (eP kd)=rows.eraseIdx i/\(Instr.findKey kt k es).run P w= .ok (some (i,x.val)) w)\/
  (rows.any (eP kd)=false/\(∀vs,iO kd vs rows=rows++[kd::vs])/\rows.eraseP (eP kd)=rows/\(Instr.findKey kt k es).run P w= .ok none w)
 check:∀{Pp:fE}{k:Value}{kd:D}(w:World),KD tt Pp kc k kd->∀b,(Instr.checkKey b 10000 kt k).run P w= .ok () w
 bits:∀{Pp:fE}{u v:Value}{d d':D},KD tt Pp kc u d->KD tt Pp kc v d'->ny d d'=true->Instr.sameBits 10000 v u=true
theorem si{kt:TypeId}{kc:CK}{e:TypeId}{k:Value}{kd:D}(j:∀(v:Value)(d:D),KD tt Pp kc v d->(Op.equal kt k v).run P w= .ok (ny kd d) w):∀(es:List MapEntry)(rows:List (List D))(n:Nat),rO tt Pp kc e es rows->
 (∃i x row,es[i]? =some x/\rows[i]? =some row/\eP kd row=true/\rows.any (eP kd)=true/\rows.find? (eP kd)=some row/\(∀vs,iO kd vs rows=rows.set i (kd::vs))/\rows.eraseP (eP kd)=rows.eraseIdx i/\(Instr.findAsking kt k es n).run P w= .ok (some (n+i,x.val)) w)\/
 (rows.any (eP kd)=false/\(∀vs,iO kd vs rows=rows++[kd::vs])/\rows.eraseP (eP kd)=rows/\(Instr.findAsking kt k es n).run P w= .ok none w)
 |[],rows,n,h=>by have:=h.1;have:rows=[]:=bY (yU this.symm);subst this;exact .inr ⟨rfl,λ_=>rfl,rfl,by simp[Instr.findAsking]⟩
 |x::es,[],n,h=>by have:=h.1;simp at this
 |x::es,row::rows,n,h=>by
  obtain⟨⟨g,vd,rfl,hr,_⟩,l⟩:=h.tail;have f:=j _ _ hr;have b:eP kd (g::vd)=ny kd g:=rfl;cases c:ny kd g with
  |true=>rw[c]at f;refine .inl ⟨0,x,g::vd,rfl,rfl,by rw[b,c],by simp[b,c],by simp[b,c],λvs=>by simp[iO,b,c],by simp[b,c],?_⟩;simp[Instr.findAsking,f]
  |false=>
   rw[c]at f;rcases si j es rows (n+1) l with⟨i,y,r,h1,h2,h3,h4,h5,h6,h8,h7⟩|⟨h1,h2,h8,h3⟩
   ·refine .inl ⟨i+1,y,r,yU h1,yU h2,h3,by simp[h4],by simp[b,c,h5],λvs=>by simp[iO,b,c,h6],by simp[b,c,h8],?_⟩;simp only[Instr.findAsking,Sem.run_bind,f,Result.andThen_ok,cv,if_false];rw[h7,show n+1+i=n+(i+1)by omega]
   ·exact .inr ⟨by simp[b,c,h1],λvs=>by simp[iO,b,c,h2],by simp[b,c,h8],by simp[Instr.findAsking,f,h3]⟩
theorem tV{kt:TypeId}{kc:CK}(h:jl P kt F)(hk:keyOf F=some kc):Vo P tt kt kc:=by
 unfold keyOf at hk;split at hk
 ·rename_i c ha hc;cases hs:gO c with
  |false=>rw[hs]at hk;cases hk
  |true=>
   rw[hs]at hk;simp at hk;subst hk;have hu:=D2 h ha hc hs;refine⟨λ{Pp e k kd} w f es rows he=>?_,λ{Pp k kd} w f b=>qL hs hu (oE hs f) b,λ{Pp u v d d'} h1 h2 h3=>Df hs (oE hs h1) (oE hs h2) h3 10000⟩;rcases yM hs (oE hs f) es rows 0 he with⟨i,x,row,h1,h2,h3,h4,h5,h6,h8,h7⟩|⟨h1,h2,h8,h3⟩
   ·rw[dW]at h7;exact .inl ⟨i,x,row,h1,h2,h3,h4,h5,h6,h8,yN hu h7⟩
   ·exact .inr ⟨h1,h2,h8,yN hu h3⟩
 ·rename_i ha hc;cases hs:F.yW with
  |false=>rw[hs]at hk;cases hk
  |true=>
   rw[hs]at hk;simp at hk;subst hk;obtain⟨_,_,⟨fs,hu⟩,g⟩:=h.eqs hs;rw[hc]at g
   have l:∀(a b:ByteArray),∀(j:Nat) c u,[CK.str,CK.str][j]? =some c->[Value.string a,Value.string b][j]? =some u->isScalar c u:=by
    intro a b j c u h1 h2
    match j with
    |0=>simp at h1 h2;subst h1 h2;exact⟨_,rfl⟩
    |1=>simp at h1 h2;subst h1 h2;exact⟨_,rfl⟩
    |j+2=>simp at h1
   have ic:∀{Pp:fE}{v:Value}{d:D},KD tt Pp .ic v d->∃a b:ByteArray,v= .agg ⟨[.string a,.string b]⟩/\d= .ptr [.str a.data.toList,.str b.data.toList]:=by
    intro Pp v d h;rcases h with h|h
    ·exact absurd rfl h.1
    ·exact h.2
   have eqs:∀(a b c d:ByteArray),uQ [.string a,.string b] [.string c,.string d]=ny (.ptr [.str a.data.toList,.str b.data.toList]) (.ptr [.str c.data.toList,.str d.data.toList]):=by intro a b c d;simp only[uQ,SJ,ny];cases a.data.toList==c.data.toList<;>cases b.data.toList==d.data.toList<;>rfl
   refine⟨λ{Pp e k kd} w f es rows he=>?_,λ{Pp k kd} w f b=>?_,λ{Pp u v d d'} h1 h2 h3=>?_⟩
   ·obtain⟨a,b,rfl,rfl⟩:=ic f
    have q:(Instr.findKey kt (.agg ⟨[.string a,.string b]⟩) es).run P w=(Instr.findAsking kt (.agg ⟨[.string a,.string b]⟩) es).run P w:=by
     cases es with
     |nil=>simp[Instr.findKey,run_underlying hu,Instr.findNow,Instr.findAsking]
     |cons x es=>simp[Instr.findKey,run_underlying hu,Instr.findNow,Instr.sameNow]
    rw[q];have:=si (P:=P) (w:=w) (kt:=kt) (k:=.agg ⟨[.string a,.string b]⟩) (kd:=.ptr [.str a.data.toList,.str b.data.toList]) (λv d s=>by obtain⟨c,d',rfl,rfl⟩:=ic s;rw[(g _ _ w rfl rfl (l a b) (l c d')).1,eqs]) es rows 0 he;simpa only[dW]using this
   ·obtain⟨a,b',rfl,rfl⟩:=ic f;exact(g _ _ w rfl rfl (l a b') (l a b')).2 b
   ·obtain⟨a,b,rfl,rfl⟩:=ic h1;obtain⟨c,d',rfl,rfl⟩:=ic h2;simp only[ny,bw,beq_iff_eq]at h3;have e1:a=c:=by cases a;cases c;congr 1;exact pZ.1 h3.1
    have e2:b=d':=by cases b;cases d';congr 1;exact pZ.1 h3.2
    subst e1 e2;simp[Instr.sameBits,Mv]
 ·cases hk
theorem B3{c:CK}{v:Value}(h:jM c p=true)(d:VR tt E Pp v p):KD tt Pp c v (lG p):=by
 unfold jM at h;split at h
 ·split at h
  ·rename_i a b;cases d with
   |agg vs _ hl=>
    cases hl with
    |cons _ _ _ _ h1 h2=>cases h2 with|cons _ _ _ _ h3 h4=>cases h4;cases h1;cases h3;exact .inr ⟨rfl,_,_,rfl,rfl⟩
  ·cases h
 ·rename_i f
  have e:lG p=qf p:=by
   unfold lG;split
   ·rename_i a b;cases c<;>simp[sW]at h
   ·rfl
  rw[e];exact .inl ⟨f,Gg h d⟩
theorem FZ(h:cL tt B E Pp st.o w)(hs:∀t,VR tt E Pp (a.tmps.getD t undef) (look st.s t)){e:TypeId}{f:Option Operand}(c:o.op= .makeMap t f)(b:f=none){kc:CK}
 (hK:K (.mp (ch st.o)) ⟨st.s,gi st.o [.map kc e (.list [])]⟩):o.wp P a w (dH tt B dV E Pp st.o w o a K) Q:=by
 subst b;rw[eX,cI]at hK;refine dX (v:=.map (some w.heap.size)) (w':=w.alloc (.map #[] 0)) ?_ ?_
 ·simp[execOp,c,Instr.makeMap]
 ·refine dH.mk (E':=E++[.map w.heap.size [] 0]) (Pp':=Pp) (.mp _ _ [] 0 (by rw[<- h.wr.len];simp)) (fG hs) ?_ hK (λ_ ad v g=>g.grow h.wr.len (λ_ _ h=>h) (λk hk=>RowKit.Below.heap_alloc w _ k hk));exact h.new rfl ⟨#[],[],eh w _,rfl,rfl,λi x row d=>yE d,rfl,n2,λx d=>yE d,kj h.wr⟩
theorem uE(k:ec P tt){e:TypeId}(b:tt e=some A){x:Value}{vd:List D}{g:Nat->D}{off:Nat}(hl:vd.length=(bR tt e).length)(q:x.cells.toList.length=vd.length)
 (gV:∀(j:Nat)(d:D)(ck:CK)(v:Value),vd[j]? =some d->(bR tt e)[j]? =some ck->x.cells.toList[j]? =some v->RD tt Pp ck v d)
 (i:∀ti,tt e=some ti->(ti.agg=true->∃cs,x= .agg cs)/\(ti.agg=false->x.cells= #[x])) (s:∀j d,vd[j]? =some d->g (off+j)=d):VR tt E Pp x (fa A (qD dz g off A.bT)):=by
 have f:bR tt e=A.bT:=by simp[bR,b]
 rw[f]at hl gV;have hc:=oH (tt:=tt) (E:=E) (Pp:=Pp) (g:=g) (off:=off) (cs:=A.bT) (vs:=x.cells.toList) yO (by intro j c v hc i;have u:=cx hc;have l:vd[j]? =some (vd[j]'yO):=bx yO;rw[s j _ l];exact gV j _ c v l hc i);have h:=mw (k _ _ b) (iL dz g off A.bT) hc
 have:valOf A x.cells.toList=x:=by
  obtain⟨h1,h2⟩:=i A b;unfold valOf;cases ha:A.agg with
  |true=>obtain⟨cs,rfl⟩:=h1 ha;rfl
  |false=>rw[h2 ha];rfl
 rwa [this]at h
theorem AK(f:ec P tt)(h:cL tt B E Pp st.o w)(hs:∀t,VR tt E Pp (a.tmps.getD t undef) (look st.s t)){k:Operand}(L:o.op= .lookup t m k ok)(ac:tt t=some ti)(hm:isMap ti=true)
 (U:tt (ti.ar-1)=some F) (g:tt ti.el=some A) {kc:CK} (W:keyOf F=some kc) (eO:jM kc (fK tt st.s (ti.ar-1) k)=true) (hx:ev st.s m= .mp r) {d:D} (X:ew st.o r= .map kc ti.el d)
 (ai:dz.mJ d (lG (fK tt st.s (ti.ar-1) k))=true->K (pI ok (fa A (ij dz d (lG (fK tt st.s (ti.ar-1) k)) 0 A.bT)) true) st)
 (O:dz.mJ d (lG (fK tt st.s (ti.ar-1) k))=false->∀{E:List RI}{Pp:fE}{v:Value},VR tt E Pp v (fa A (A.bT.map gL))->VR tt E Pp v p0) (Z:dz.mJ d (lG (fK tt st.s (ti.ar-1) k))=false->K (pI ok p0 false) st):o.wp P a w (dH tt B dV E Pp st.o w o a K) Q:=by
 obtain⟨kt,e,hu,_,Y,ap⟩:=(f _ _ ac).map hm;subst Y;have aa:ti.ar-1=kt:=yO;simp only[aa]at*;have R:=tV (tt:=tt) (f _ _ U) W;have J:=B3 eO (iE hs kt k);generalize ar:lG (fK tt st.s kt k)=kd at*;have q:=eG hs m;rw[hx]at q;have ae:=cT X rfl;obtain⟨ri,T,af⟩:=h.wr.ob r _ ae rfl;generalize y:a.eval m=vm at q;cases q with
 |mp _ b bs cl hE=>
  rw[hE]at T;cases T;obtain⟨es,rows,hb,rfl,hl,l,ag,fR,c8,an⟩:=af;have S:=R.check w J es.isEmpty;rcases R.find w J es.toList rows ⟨hl,l⟩with⟨i,x,row,h1,h2,h3,h4,h5,_,_,s⟩|⟨h1,_,_,s⟩
  ·obtain⟨ax,vd,rfl,e2,e3,e4,e5,e6⟩:=l i x row h1 h2;have c:VR tt E Pp x.val (fa A (ij dz (.list rows) kd 0 A.bT)):=by refine uE f g e3 e4 e5 e6 ?_;intro j dd hj;simp[dz,cn,h5,cc,hj]
   refine dX (v:=if ok then .tuple #[x.val,.bool true]else x.val) (w':=w) ?_ ?_
   ·simp only[execOp,L,y,Instr.lookup,run_underlying hu,Sem.run_bind,Result.andThen_ok,getObj,Sem.run,hb,Sem.run_pure,S,s]
   ·refine dH.mk (s':=st.s) (o':=st.o) (pv:=pI ok (fa A (ij dz (.list rows) kd 0 A.bT)) true) ?_ hs h (ai (by simpa[dz,cn]using h4)) (λ_ ad v hv=>hv);cases ok with
    |true=>exact .tup _ _ (.cons _ _ _ _ c (.cons _ _ _ _ (.bl _) .nil))
    |false=>exact c
  ·obtain⟨_,_,⟨z,hz,M⟩,_⟩:=(f _ _ g).run w;obtain⟨i0,z0,d0,ak,_,_,V,al,u,_⟩:=(f _ _ g).info
   have aj:z=z0:=by
    have:(zeroValue ti.el).run P w= .ok z0 w:=by simp[zeroValue,typeInfo,ak,V]
    rw[hz]at this;cases this;rfl
   subst aj
   have c:VR tt E Pp z (fa A (A.bT.map gL)):=by
    have ab:=mw (tt:=tt) (f _ _ g) (E:=E) (Pp:=Pp) yS (p8 A.bT)
    have:valOf A (A.bT.map zeroV)=z:=by
     unfold valOf;cases ha:A.agg with
     |true=>obtain⟨cs,rfl⟩:=u.1 ha;rw[<- M];rfl
     |false=>rw[<- M,u.2 ha];rfl
    rwa [this]at ab
   refine dX (v:=if ok then .tuple #[z,.bool false]else z) (w':=w) ?_ ?_
   ·simp only[execOp,L,y,Instr.lookup,run_underlying hu,Sem.run_bind,Result.andThen_ok,getObj,Sem.run,hb,Sem.run_pure,S,s,hz]
   ·refine dH.mk (s':=st.s) (o':=st.o) (pv:=pI ok p0 false) ?_ hs h (Z (by simpa[dz,cn]using h1)) (λ_ ad v hv=>hv);cases ok with
    |true=>exact .tup _ _ (.cons _ _ _ _ (O (by simpa[dz,cn]using h1) c) (.cons _ _ _ _ (.bl _) .nil))
    |false=>exact O (by simpa[dz,cn]using h1) c
theorem yn(htt:ec P tt)(h:cL tt B E Pp st.o w)(hs:∀t,VR tt E Pp (a.tmps.getD t undef) (look st.s t)){k:Operand}(hop:o.op= .lookup t m k ok)(hti:tt t=some ti)(hm:isMap ti=true)
 (hki:tt (ti.ar-1)=some F) (hei:tt ti.el=some A) {kc:CK} (hkc:keyOf F=some kc) (eO:jM kc (fK tt st.s (ti.ar-1) k)=true) {d:D} (hx:ev st.s m= .dmp ti.el d) (hstr:kc= .str)
 (hK1:dz.mJ d (lG (fK tt st.s (ti.ar-1) k))=true->K (pI ok (fa A (ij dz d (lG (fK tt st.s (ti.ar-1) k)) 0 A.bT)) true) st)
 (hp0:dz.mJ d (lG (fK tt st.s (ti.ar-1) k))=false->∀{E:List RI}{Pp:fE}{v:Value},VR tt E Pp v (fa A (A.bT.map gL))->VR tt E Pp v p0) (hK2:dz.mJ d (lG (fK tt st.s (ti.ar-1) k))=false->K (pI ok p0 false) st):o.wp P a w (dH tt B dV E Pp st.o w o a K) Q:=by
 obtain⟨kt,e,hu,_,hel,har⟩:=(htt _ _ hti).map hm;subst hel;have hkt:ti.ar-1=kt:=yO;simp only[hkt]at*;have hko:=tV (tt:=tt) (htt _ _ hki) hkc;have hkr:=B3 eO (iE hs kt k);generalize hkd:lG (fK tt st.s kt k)=kd at*;have hmv:=eG hs m;rw[hx]at hmv;generalize hgm:a.eval m=vm at hmv;subst hstr
 have hmiss:∀(hmh:dz.mJ d kd=false)(hcode:∀ z,(zeroValue ti.el).run P w= .ok z w->(execOp a.eval o).run P w= .ok (.value (if ok then .tuple #[z,.bool false]else z)) w),o.wp P a w (dH tt B dV E Pp st.o w o a K) Q:=by
  intro hmh hcode;obtain⟨_,_,⟨z,hz,hzc⟩,_⟩:=(htt _ _ hei).run w;obtain⟨i0,z0,d0,hi0,_,_,hz0,hzc0,hag,_⟩:=(htt _ _ hei).info
  have hzz:z=z0:=by
   have:(zeroValue ti.el).run P w= .ok z0 w:=by simp[zeroValue,typeInfo,hi0,hz0]
   rw[hz]at this;cases this;rfl
  subst hzz
  have hval:VR tt E Pp z (fa A (A.bT.map gL)):=by
   have hvo:=mw (tt:=tt) (htt _ _ hei) (E:=E) (Pp:=Pp) yS (p8 A.bT)
   have:valOf A (A.bT.map zeroV)=z:=by
    unfold valOf;cases ha:A.agg with
    |true=>obtain⟨cs,rfl⟩:=hag.1 ha;rw[<- hzc];rfl
    |false=>rw[<- hzc,hag.2 ha];rfl
   rwa [this]at hvo
  refine dX (v:=if ok then .tuple #[z,.bool false]else z) (w':=w) (hcode z hz) ?_;refine dH.mk (s':=st.s) (o':=st.o) (pv:=pI ok p0 false) ?_ hs h (hK2 hmh) (λ_ ad v hv=>hv);cases ok with
  |true=>exact .tup _ _ (.cons _ _ _ _ (hp0 hmh hval) (.cons _ _ _ _ (.bl _) .nil))
  |false=>exact hp0 hmh hval
 have gV:∃t',RD tt Pp (.map t' ti.el) vm d:=by
  cases hmv with
  |dmp t' _ _ _ hr=>exact⟨t',hr⟩
 obtain⟨t',gV⟩:=gV;rcases gV.rC with⟨rfl,rfl⟩|⟨b,es,clock,rows,rfl,rfl,m⟩
 ·have hck:=hko.check w hkr true;rcases hko.find (e:=0) w hkr [] [] ⟨rfl,λi x row h1=>yE h1⟩with⟨i,x,row,h1,_⟩|⟨_,_,_,hfk⟩
  ·simp at h1
  ·refine hmiss (by simp[dz,cn]) (λz hz=>?_);simp only[execOp,hop,hgm,Instr.lookup,run_underlying hu,Sem.run_bind,Result.andThen_ok,Sem.run,Sem.run_pure,show (#[]:Array MapEntry).isEmpty=true from rfl,hck,hfk,hz]
 ·have hb:=BN (h.wr.pi _ _ m.gR);have hl:=m.len;have hent:=m.Qc;have hck:=hko.check w hkr es.isEmpty;rcases hko.find w hkr es.toList rows ⟨hl,hent⟩with⟨i,x,row,h1,h2,h3,h4,h5,_,_,hfk⟩|⟨h1,_,_,hfk⟩
  ·obtain⟨kd',vd,rfl,e2,e3,e4,e5,e6⟩:=hent i x row h1 h2;have hval:VR tt E Pp x.val (fa A (ij dz (.list rows) kd 0 A.bT)):=by refine uE htt hei e3 e4 e5 e6 ?_;intro j dd hj;simp[dz,cn,h5,cc,hj]
   refine dX (v:=if ok then .tuple #[x.val,.bool true]else x.val) (w':=w) ?_ ?_
   ·simp only[execOp,hop,hgm,Instr.lookup,run_underlying hu,Sem.run_bind,Result.andThen_ok,getObj,Sem.run,hb,Sem.run_pure,hck,hfk]
   ·refine dH.mk (s':=st.s) (o':=st.o) (pv:=pI ok (fa A (ij dz (.list rows) kd 0 A.bT)) true) ?_ hs h (hK1 (by simpa[dz,cn]using h4)) (λ_ ad v hv=>hv);cases ok with
    |true=>exact .tup _ _ (.cons _ _ _ _ hval (.cons _ _ _ _ (.bl _) .nil))
    |false=>exact hval
  ·refine hmiss (by simpa[dz,cn]using h1) (λz hz=>?_);simp only[execOp,hop,hgm,Instr.lookup,run_underlying hu,Sem.run_bind,Result.andThen_ok,getObj,Sem.run,hb,Sem.run_pure,hck,hfk,hz]
theorem AV(m:Nat):∀(l:List Ob)(i:Nat),(mR m l)[i]? =(l[i]?).map λo=>match o with| .iter m' s=>bif nb m' m then .dead else .iter m' s|o=>o
 |[],i=>by simp[mR]
 |o::l,i=>by cases o<;>cases i<;>simp[mR,AV m l]
theorem pr(m:Nat):∀(l:List Ob),(mR m l).length=l.length
 |[]=>rfl
 |o::l=>by cases o<;>simp[mR,pr m l]
theorem cL.DJ{b:Nat}{o o':Ob}(h:cL tt B E Pp objs w)(O:objs[r]? =some o)(g:o.live=true)(u:MT Pp b)(M:E[r]? =some (.map b bs cl))
 (hb:∃es,w.heap[b]? =some (.map es cl)) (z:OR tt (E.set r (.map b H G)) Pp { w with heap:=w.heap.setIfInBounds b (.map I G) } (.map b H G) o'):
 cL tt B (E.set r (.map b H G)) Pp ((mR r objs).set r o') { w with heap:=w.heap.setIfInBounds b (.map I G) }:=by
 have hl:=h.wr.len;have hr:=cx O;obtain⟨es,hb⟩:=hb
 have U:b<w.heap.size:=by
  rcases bV b w.heap.size with y|y
  ·exact y
  ·simp[cC y]at hb
 have ek:oR E (E.set r (.map b H G)):=by
  intro i x q;by_cases R:i=r
  ·subst R;rw[M]at q;cases q;exact .inr ⟨b,bs,cl,H,G,rfl,by rw[bZ yO]⟩
  ·exact .inl (by rw[bU (dy R)];exact q)
 refine h.wm O g M yS (λj L=>bU (dy L)) (by rw[bZ yO]) (.inl ek) (by simp[pr]) ?_ (by rw[bZ (by rw[pr];exact hr)]) (λ_=>z) rfl rfl rfl yS ?_ (λ_ _ h=>h) (λ_ _ h=>.inl h) (λb' J=>.inl J) ?_
 ·intro j W L c g;rw[bU (dy L),AV]at c;cases q:objs[j]? with
  |none=>rw[q]at c;simp at c
  |some oj=>
   rw[q]at c;simp only[cr,cz]at c;cases oj with
   |box cs=>
    simp only at c;subst c;refine⟨_,rfl,rfl,λrj f d=>?_⟩;cases rj<;>try exact d.elim
    ·obtain⟨vs,T,h1,h2,h3⟩:=d;exact⟨vs,T,h1,(VR.fQ ek (λ_ _ h=>h)).2 h2,h3⟩
    ·exact d.imp λ_ a=>⟨a.1,(VR.fQ ek (λ_ _ h=>h)).2 a.2.1,a.2.2⟩
   |row=>simp only at c;subst c;exact⟨_,rfl,rfl,λrj f d=>by cases rj<;>exact d⟩
   |map=>simp only at c;subst c;exact⟨_,rfl,rfl,λrj f d=>by cases rj<;>exact d⟩
   |iter m s=>
    simp only at c;cases hm:nb m r with
    |true=>rw[hm]at c;simp at c;subst c;simp[Ob.live]at g
    |false=>
     rw[hm]at c;simp at c;subst c;refine⟨_,rfl,rfl,λrj f d=>?_⟩;cases rj<;>try exact d.elim
     obtain⟨X,borns,clock,V,h1,h2⟩:=d;refine⟨X,borns,clock,V,?_,h2⟩;rw[bU]
     ·exact h1
     ·rintro rfl;rw[jq]at hm;cases hm
   |loop n Z c1 c2 s Y=>
    simp only at c;subst c;refine⟨_,rfl,rfl,λrj f d=>?_⟩;cases rj<;>try exact d.elim
    obtain⟨r',h1,h2,h3⟩:=d;exact⟨r',h1,h2,λt=>(VR.fQ ek (λ_ _ h=>h)).1 (h3 t)⟩
   |diter=>simp only at c;subst c;exact⟨_,rfl,rfl,λrj f d=>by cases rj<;>exact d⟩
   |dead=>simp only at c;subst c;simp[Ob.live]at g
 ·intro k _ l;have:k≠b:=λe=>l (by rw[e];rfl);simp[cE (dy this)]
 ·intro ad v S;have hc:=h.wr.pi ad v S;have l:ad.block≠b:=u ad v S;rw[<- hc];refine gF ?_;simp[cE (dy l)]
theorem cL.wP{b:Nat}{kc:CK}{e:TypeId}{d d':D}(h:cL tt B E Pp objs w)(i:objs[r]? =some (.map kc e d))(g:E[r]? =some (.map b bs cl))
 (hb:∃es,w.heap[b]? =some (.map es cl)) (f:OR tt (E.set r (.map b H G)) Pp { w with heap:=w.heap.setIfInBounds b (.map I G) } (.map b H G) (.map kc e d')):
 cL tt B (E.set r (.map b H G)) Pp ((mR r objs).set r (.map kc e d')) { w with heap:=w.heap.setIfInBounds b (.map I G) }:=by
 refine h.DJ i rfl ?_ g hb f;obtain⟨ri,c,h2⟩:=h.wr.ob r _ i rfl;rw[g]at c;cases c;obtain⟨_,_,_,_,_,_,_,_,_,h3⟩:=h2;exact h3
theorem ME{b:Bool}{v:Value}(h:zq b p=true)(g:VR tt E Pp v p)(i:gE hX (flat p)=true):(b=true->∃cs,v= .agg cs)/\(b=false->v.cells= #[v]):=by
 cases b with
 |true=>
  refine⟨λ_=>?_,λh=>yC h⟩;cases g<;>simp[zq]at h
  exact⟨_,rfl⟩
 |false=>
  refine⟨λh=>(yC h),λ_=>?_⟩;cases g with
  |lst e v d hr=>cases hr<;>rfl
  |dptr t v d hr=>cases hr<;>rfl
  |dmp t e v d hr=>rcases hr.rC with⟨rfl,_⟩|⟨_,_,_,_,rfl,_⟩<;>rfl
  |undef=>simp[zq]at h
  |agg=>simp[zq]at h
  |cy _ f _ _ hu _=>
   rcases bV f kz with hb|hb
   ·rw[hu.1 hb];rfl
   ·rw[hu.2 hb];rfl
  |fH _ _ _ _ off _ _ _ _ _ _ hu=>
   by_cases c:off=dB
   ·obtain⟨⟨j,e,_⟩,_⟩:=hu.2 c;rw[e];rfl
   ·rw[(hu.1 c).1];rfl
  |cP _ _ _ off _ _ hu _ _=>
   by_cases c:off=dB
   ·rw[hu.2 c];rfl
   ·rw[hu.1 c];rfl
  |box _ _ off _ _ hu=>
   by_cases c:off<=dB
   ·rw[hu.1 c];rfl
   ·rw[hu.2 (off-(dB+1)) yO];rfl
  |_=>rfl
theorem I4(ak:ec P tt)(h:cL tt B E Pp st.o w)(hs:∀t,VR tt E Pp (a.tmps.getD t undef) (look st.s t)){k x:Operand}(f:o.op= .mapUpdate t m k x\/o.op= .insert t m k x)(aD:tt t=some ti)(hm:isMap ti=true)
 (aq:tt (ti.ar-1)=some F) (am:tt ti.el=some A) {kc:CK} (av:keyOf F=some kc) (eO:jM kc (fK tt st.s (ti.ar-1) k)=true) (hx:ev st.s m= .mp r) {d:D} (ay:ew st.o r= .map kc ti.el d)
 (aI:0<A.bT.length) (aj:iG A.bT (cS (ng st.o 8) (flat (fK tt st.s ti.el x)))=true) (ai:gE hX (flat (fK tt st.s ti.el x))=true) (an:zq A.agg (fK tt st.s ti.el x)=true) (ae:eu (eV (ids st.o 8) (flat (fK tt st.s ti.el x)))=true)
 (hK:K .undef ⟨st.s,gU (mR r st.o) r (.map kc ti.el (dz.lU d (lG (fK tt st.s (ti.ar-1) k)) (cS qf (cS (ng st.o 8) (flat (fK tt st.s ti.el x))))))⟩):o.wp P a w (dH tt B dV E Pp st.o w o a K) Q:=by
 obtain⟨kt,e,hu,_,az,aM⟩:=(ak _ _ aD).map hm;subst az;have aB:ti.ar-1=kt:=yO;simp only[aB]at*;have Z:=tV (tt:=tt) (ak _ _ aq) av;have R:=B3 eO (iE hs kt k);generalize aN:lG (fK tt st.s kt k)=kd at*;have ah:=iE hs ti.el x;have W:=ME an ah ai;generalize al:flat (fK tt st.s ti.el x)=ps at*
 have V:ps.length=A.bT.length:=by
  have:∀(cs:List CK)(qs:List PV),iG cs qs=true->qs.length=cs.length:=by
   intro cs;induction cs with
   |nil=>intro qs h;cases qs<;>simp_all[iG]
   |cons c cs ih=>intro qs h;cases qs<;>simp_all[iG]
  have:=this _ _ aj
  rwa [fI]at this
 have u:eJ tt E Pp (a.eval x).cells.toList ps:=by rw[<- al];exact mT ah (by rw[al];intro h0;rw[h0]at V;simp at V;omega)
 obtain⟨_,gV⟩:=B2 aj (Ee h.wr u ae);generalize ar:cS qf (cS (ng st.o 8) ps)=ds at*;have aF:ds.length=A.bT.length:=by rw[<- ar,fI,fI];exact V
 have mZ:=u.length;have T:bR tt ti.el=A.bT:=by simp[bR,am]
 have q:∀y:MapEntry,y.key=a.eval k->y.val=a.eval x->uy tt Pp kc ti.el y (kd::ds):=by
  intro y h1 h2;refine⟨kd,ds,rfl,by rw[h1];exact R,by rw[T];exact aF,by rw[h2];omega,?_,?_⟩
  ·intro j dd ck v hj O hv;rw[h2]at hv;rw[T]at O;exact gV j ck v dd O hv hj
  ·intro aL U;rw[am]at U;cases U;rw[h2];exact W
 have X:=eG hs m;rw[hx]at X;have Y:=cT ay rfl;obtain⟨ri,ao,aE⟩:=h.wr.ob r _ Y rfl;have g:execOp a.eval o=(do Instr.mapUpdate t (a.eval m) (a.eval k) (a.eval x);pure .skip:Sem Next):=by rcases f with f|f<;>simp[execOp,f]
 have s:fM dV o.op=false:=by rcases f with f|f<;>rw[f]<;>rfl
 generalize au:a.eval m=vm at X;rw[au]at g;cases X with
 |mp _ b bs cl hE=>
  rw[hE]at ao;cases ao;obtain⟨es,rows,hb,rfl,hl,l,M,fR,c8,ad⟩:=aE;have O:=Z.check w R false;rw[fV]at hK
  have ap:b<w.heap.size:=by
   rcases bV b w.heap.size with h'|h'
   ·exact h'
   ·simp[cC h']at hb
  have S:∀(x:Obj),(w.heap.setIfInBounds b x)[b]? =some x:=λx=>cN ap
  have fk:∀H G,∀t,VR tt (E.set r (.map b H G)) Pp (a.tmps.getD t undef) (look st.s t):=by
   intro H G t;refine(VR.fQ (λi y hy=>?_) (λ_ _ h=>h)).1 (hs t);by_cases hi:i=r
   ·subst hi;rw[hE]at hy;cases hy;exact .inr ⟨b,bs,cl,H,G,rfl,by rw[bZ (cx hE)]⟩
   ·exact .inl (by rw[bU (dy hi)];exact hy)
  rcases Z.find w R es.toList rows ⟨hl,l⟩with⟨i,y,row,h1,h2,h3,h4,h5,h6,_,aa⟩|⟨h1,h2,_,aa⟩
  ·obtain⟨aQ,vd,rfl,e2,_⟩:=l i y row h1 h2;have aA:=Z.bits R e2 (by simpa[eP]using h3);have ax:es[i]? =some y:=yU h1;refine wZ (w':={ w with heap:=w.heap.setIfInBounds b (.map (es.modify i λe=>{ e with key:=a.eval k,val:=a.eval x }) cl) }) ?_ ?_
   ·rw[g];simp[Instr.mapUpdate,run_underlying hu,getObj,setObj,Sem.run,hb,O,aa,ax,Instr.keyThatStays,aA]
   ·refine dH.mk (.undef _) (fk bs cl) ?_ hK (λhq=>by rw[s]at hq;cases hq);refine h.wP Y hE ⟨_,hb⟩ ?_;refine⟨_,rows.set i (kd::ds),S _,by simp[cn,h6],by simp[hl],?_,?_,fR,c8,ad⟩
    ·intro j z rw hz dG;simp only[JY,tf]at hz;by_cases J:i=j
     ·subst J;rw[h1]at hz;rw[bZ (cx h2)]at dG;simp at hz dG;subst dG;exact q z (by rw[<- hz]) (by rw[<- hz])
     ·rw[bU J]at dG;simp only[J,if_false]at hz;exact l j z rw (yU hz) dG
    ·rw[<- M];apply pD;intro j;simp only[JY,cu,tf];by_cases J:i=j
     ·subst J;simp[h1]
     ·simp[J]
  ·refine wZ (w':={ w with heap:=w.heap.setIfInBounds b (.map (es.push { key:=a.eval k,val:=a.eval x,born:=cl }) (cl+1)) }) ?_ ?_
   ·rw[g];simp[Instr.mapUpdate,run_underlying hu,getObj,setObj,Sem.run,hb,O,aa]
   ·refine dH.mk (.undef _) (fk (bs++[cl]) (cl+1)) ?_ hK (λhq=>by rw[s]at hq;cases hq);refine h.wP Y hE ⟨_,hb⟩ ?_;refine⟨_,rows++[kd::ds],S _,by simp[cn,h2],by simp[hl],?_,by simp[M],?_,?_,ad⟩
    ·intro j z rw hz dG;simp only[NB]at hz;rcases ju hz with⟨aH,L⟩|⟨j',rfl,L⟩
     ·rw[bS yO]at dG;exact l j z rw L dG
     ·rw[hl,cp yO]at dG;cases j' with
      |zero=>simp at L dG;subst dG;exact q z (by rw[<- L]) (by rw[<- L])
      |succ j'=>simp at L
    ·rw[cV];refine⟨fR,yS,?_⟩;intro a ha b hb;simp at hb;subst hb;have:=c8 a ha;omega
    ·intro x hx;simp at hx;rcases hx with hx|rfl
     ·have:=c8 x hx;omega
     ·omega
theorem DM(h:cL tt B E Pp st.o w)(hs:∀t,VR tt E Pp (a.tmps.getD t undef) (look st.s t))(b:o.op= .makeMap t none)
 (hK:K (.mp (ch st.o)) ⟨st.s,gi st.o [.box []]⟩):o.wp P a w (dH tt B dV E Pp st.o w o a K) Q:=by
 rw[eX,cI]at hK;refine dX (v:=.map (some w.heap.size)) (w':=w.alloc (.map #[] 0)) ?_ ?_
 ·simp[execOp,b,Instr.makeMap]
 ·refine dH.mk (E':=E++[.map w.heap.size [] 0]) (Pp':=Pp) (.mp _ _ [] 0 (by rw[<- h.wr.len];simp)) (fG hs) ?_ hK (λ_ ad v c=>c.grow h.wr.len (λ_ _ h=>h) (λk hk=>RowKit.Below.heap_alloc w _ k hk));exact h.new rfl ⟨#[],eh w _,.nil,rfl,n2,λx d=>yE d,kj h.wr⟩
theorem AA:∀(es:List MapEntry)(cs:List PV)(j:Nat),eJ tt E Pp (Q7 es) cs->uW C n cs=true->Instr.findNow (.int C) (.int C n) es j=some none
 |[],_,_,_,_=>rfl
 |x::es,cs,j,h,b=>by
  cases h with
  |cons _ q _ ps h1 h2=>
   cases h2 with
   |cons _ i _ f h3 h4=>
    unfold uW at b;split at b
    ·rename_i e;cases e
    ·rename_i k' m _ cs e;cases e;split at b
     ·rename_i hk c;have d:=yv hk;subst d;generalize g:x.key=y at h1;cases h1;have hb:(n==m)=false:=by simpa using of_decide_eq_false c
      simp only[Instr.findNow,g,Instr.sameNow,if_true,hb];exact AA es _ _ h4 b
     ·cases b
    ·cases b
theorem AR:∀(es:List MapEntry)(cs:List PV)(j:Nat),eJ tt E Pp (Q7 es) cs->∀o,getKey C n cs=some o->
 (match o with|none=>Instr.findNow (.int C) (.int C n) es j=some none|some p=>∃i v,Instr.findNow (.int C) (.int C n) es j=some (some (i,v))/\VR tt E Pp v p)
 |[],_,_,h,o,b=>by cases h;simp[getKey]at b;subst b;rfl
 |x::es,cs,j,h,o,b=>by
  cases h with
  |cons _ q _ ps h1 h2=>
   cases h2 with
   |cons _ l _ k h3 h4=>
    unfold getKey at b;split at b
    ·rename_i e;cases e
    ·rename_i k' m _ cs e;cases e;split at b
     ·rename_i hk c;have d:=yv hk;subst d;generalize g:x.key=y at h1;cases h1;have f:=of_decide_eq_true c;cases b;exact⟨j,x.val,by simp[Instr.findNow,g,Instr.sameNow,f],h3⟩
     ·rename_i hk c;have d:=yv hk;subst d;generalize g:x.key=y at h1;cases h1;have hb:(n==m)=false:=by simpa using of_decide_eq_false c
      simp only[Instr.findNow,g,Instr.sameNow,if_true,hb];exact AR es _ _ h4 o b
     ·cases b
    ·cases b
theorem keyOf_int(h:jl P t F)(hk:keyOf F=some (.int C)):P.underlying t=some (.int C):=by
 unfold keyOf at hk;split at hk
 ·rename_i c ha hc;cases hs:gO c with
  |false=>rw[hs]at hk;cases hk
  |true=>rw[hs]at hk;simp at hk;subst hk;exact D2 h ha hc hs
 ·cases hs:F.yW with
  |false=>rw[hs]at hk;cases hk
  |true=>rw[hs]at hk;cases hk
 ·cases hk
theorem FY(O:ec P tt)(h:cL tt B E Pp st.o w)(hs:∀t,VR tt E Pp (a.tmps.getD t undef) (look st.s t)){k x:Operand}(c:o.op= .mapUpdate t m k x\/o.op= .insert t m k x)(ae:tt t=some ti)(hm:isMap ti=true)
 (U:tt (ti.ar-1)=some F) (W:keyOf F=some (.int C)) (hn:fK tt st.s (ti.ar-1) k= .int C n) (u:ev st.s m= .mp r) (Y:ew st.o r= .box cs) (J:uW C n cs=true)
 (hK:K .undef ⟨st.s,gU (mR r st.o) r (.box (gi cs [.int C n,fK tt st.s ti.el x]))⟩):o.wp P a w (dH tt B dV E Pp st.o w o a K) Q:=by
 obtain⟨kt,e,hu,_,Z,ak⟩:=(O _ _ ae).map hm;subst Z;have ab:ti.ar-1=kt:=yO;simp only[ab]at*;have z:=keyOf_int (O _ _ U) W;have q:=iE hs kt k;rw[hn]at q;have ac:=iE hs ti.el x;have j:=eG hs m;rw[u]at j;have L:=cT Y rfl;obtain⟨ri,R,af⟩:=h.wr.ob r _ L rfl;have d:execOp a.eval o=(do Instr.mapUpdate t (a.eval m) (a.eval k) (a.eval x);pure .skip:Sem Next):=by rcases c with c|c<;>simp[execOp,c]
 have f:fM dV o.op=false:=by rcases c with c|c<;>rw[c]<;>rfl
 generalize V:a.eval m=vm at j;generalize aa:a.eval k=vk at q;rw[V,aa]at d;cases q;cases j with
 |mp _ b bs cl S=>
  rw[S]at R;cases R;obtain⟨es,hb,g,s,fR,c8,v⟩:=af;have ah:(Instr.checkKey false 10000 kt (.int C n)).run P w= .ok () w:=qL (kc:=.int C) (tt:=tt) (Pp:=Pp) (kd:=.int n) rfl z (by constructor) _;have ag:(Instr.findKey kt (.int C n) es.toList).run P w= .ok none w:=by simp[Instr.findKey,run_underlying z,AA es.toList cs 0 g J]
  rw[fV]at hK
  have T:b<w.heap.size:=by
   rcases bV b w.heap.size with X|X
   ·exact X
   ·simp[cC X]at hb
  have M:∀(x:Obj),(w.heap.setIfInBounds b x)[b]? =some x:=λx=>cN T
  have ek:oR E (E.set r (.map b (bs++[cl]) (cl+1))):=by
   intro i y hy;by_cases hi:i=r
   ·subst hi;rw[S]at hy;cases hy;exact .inr ⟨b,bs,cl,_,_,rfl,by rw[bZ (cx S)]⟩
   ·exact .inl (by rw[bU (dy hi)];exact hy)
  refine wZ (w':={ w with heap:=w.heap.setIfInBounds b (.map (es.push { key:=.int C n,val:=a.eval x,born:=cl }) (cl+1)) }) ?_ ?_
  ·rw[d];simp[Instr.mapUpdate,run_underlying hu,getObj,setObj,Sem.run,hb,ah,ag]
  ·refine dH.mk (.undef _) (λt=>(VR.fQ ek (λ_ _ h=>h)).1 (hs t)) ?_ hK (λhq=>by rw[f]at hq;cases hq);refine h.DJ L rfl v S ⟨_,hb⟩ ?_;refine⟨_,M _,?_,by simp[s],?_,?_,v⟩
   ·have e1:∀l:List MapEntry,Q7 (l++[{ key:=.int C n,val:=a.eval x,born:=cl }])=Q7 l++[.int C n,a.eval x]:=by
     intro l;induction l with
     |nil=>rfl
     |cons y l ih=>simp[Q7,ih]
    rw[NB,e1,eX];exact eJ.append ((VR.fQ ek (λ_ _ h=>h)).2 g) (.cons _ _ _ _ (.int _ _) (.cons _ _ _ _ ((VR.fQ ek (λ_ _ h=>h)).1 ac) .nil))
   ·rw[cV];refine⟨fR,yS,?_⟩;intro a ha b hb;simp at hb;subst hb;have:=c8 a ha;omega
   ·intro x u;simp at u;rcases u with u|rfl
    ·have:=c8 x u;omega
    ·omega
theorem ym(c:ec P tt)(h:cL tt B E Pp st.o w)(hs:∀t,VR tt E Pp (a.tmps.getD t undef) (look st.s t)){k:Operand}(u:o.op= .lookup t m k false)(Z:tt t=some ti)(hm:isMap ti=true)
 (R:tt (ti.ar-1)=some F) (L:tt ti.el=some A) (V:keyOf F=some (.int C)) (hn:fK tt st.s (ti.ar-1) k= .int C n) (hx:ev st.s m= .mp r) (W:ew st.o r= .box cs) {g:Option PV} (hg:getKey C n cs=some g)
 (hK:match g with|some p=>K p st|none=>yx A=true/\K .nilf st):o.wp P a w (dH tt B dV E Pp st.o w o a K) Q:=by
 obtain⟨kt,e,hu,_,X,al⟩:=(c _ _ Z).map hm;subst X;have Y:ti.ar-1=kt:=yO;simp only[Y]at*;have f:=keyOf_int (c _ _ R) V;have j:=iE hs kt k;rw[hn]at j;have d:=eG hs m;rw[hx]at d;have aa:=cT W rfl;obtain⟨ri,O,ab⟩:=h.wr.ob r _ aa rfl;generalize s:a.eval m=vm at d;generalize x:a.eval k=vk at j;cases j;cases d with
 |mp _ b bs cl hE=>
  rw[hE]at O;cases O;obtain⟨es,hb,q,ac,fR,c8,aj⟩:=ab;have M:(Instr.checkKey es.isEmpty 10000 kt (.int C n)).run P w= .ok () w:=qL (kc:=.int C) (tt:=tt) (Pp:=Pp) (kd:=.int n) rfl f (by constructor) _;have J:=AR es.toList cs 0 q g hg;cases g with
  |some p=>
   obtain⟨i,v,h1,h2⟩:=J;have l:(Instr.findKey kt (.int C n) es.toList).run P w= .ok (some (i,v)) w:=by simp[Instr.findKey,run_underlying f,h1]
   refine dX (v:=v) (w':=w) ?_ (dH.mk (s':=st.s) (o':=st.o) h2 hs h hK (λ_ ad v hv=>hv));simp only[execOp,u,s,x,Instr.lookup,run_underlying hu,Sem.run_bind,Result.andThen_ok,getObj,Sem.run,hb,Sem.run_pure,M,l];rfl
  |none=>
   have l:(Instr.findKey kt (.int C n) es.toList).run P w= .ok none w:=by simp[Instr.findKey,run_underlying f,J]
   obtain⟨_,_,⟨z,hz,y⟩,_⟩:=(c _ _ L).run w;obtain⟨i0,z0,d0,ag,_,_,S,ah,T,_⟩:=(c _ _ L).info
   have af:z=z0:=by
    have:(zeroValue ti.el).run P w= .ok z0 w:=by simp[zeroValue,typeInfo,ag,S]
    rw[hz]at this;cases this;rfl
   subst af
   have U:z= .nilFunc:=by
    have hf:=hK.1;unfold yx at hf;split at hf
    ·rename_i ha hc;rw[T.2 ha,hc]at y;simpa[zeroV]using y
    ·cases hf
   subst U;refine dX (v:=.nilFunc) (w':=w) ?_ (dH.mk (s':=st.s) (o':=st.o) .nilf hs h hK.2 (λ_ ad v hv=>hv));simp only[execOp,u,s,x,Instr.lookup,run_underlying hu,Sem.run_bind,Result.andThen_ok,getObj,Sem.run,hb,Sem.run_pure,M,l,hz];rfl
theorem I5(V:ec P tt)(h:cL tt B E Pp st.o w)(hs:∀t,VR tt E Pp (a.tmps.getD t undef) (look st.s t)){k:Operand}{as:Array Operand}{ts:Array TypeId}{tr:List TypeId}(S:o.op= .call { callee:=.builtin .delete,args:=as,argTypes:=ts })(has:as.toList=[m,k])(W:ts.toList=t::tr)(ai:tt t=some ti)(hm:isMap ti=true)
 (ab:tt (ti.ar-1)=some F) {kc:CK} (ad:keyOf F=some kc) (eO:jM kc (fK tt st.s (ti.ar-1) k)=true) (hx:ev st.s m= .mp r) {e:TypeId}{d:D} (af:ew st.o r= .map kc e d)
 (hK:K (.tup []) ⟨st.s,gU (mR r st.o) r (.map kc e (dz.FX d (lG (fK tt st.s (ti.ar-1) k))))⟩):o.wp P a w (dH tt B dV E Pp st.o w o a K) Q:=by
 obtain⟨kt,e',hu,_,ao,an⟩:=(V _ _ ai).map hm;have ag:ti.ar-1=kt:=yO;simp only[ag]at*;have X:=tV (tt:=tt) (V _ _ ab) ad;have R:=B3 eO (iE hs kt k);generalize ap:lG (fK tt st.s kt k)=kd at*;have u:=eG hs m;rw[hx]at u;have L:=cT af rfl;obtain⟨ri,Z,aj⟩:=h.wr.ob r _ L rfl;have f:fM dV o.op=false:=by rw[S];rfl
 obtain⟨as⟩:=as;obtain⟨ts⟩:=ts;simp only at has W;subst has W;generalize ac:a.eval m=vm at u;cases u with
 |mp _ b bs cl U=>
  rw[U]at Z;cases Z;obtain⟨es,rows,hb,rfl,hl,c,q,fR,c8,O⟩:=aj;have Y:=X.check w R es.isEmpty;rw[fV]at hK
  have aa:b<w.heap.size:=by
   rcases bV b w.heap.size with h'|h'
   ·exact h'
   ·simp[cC h']at hb
  have s:∀(x:Obj),(w.heap.setIfInBounds b x)[b]? =some x:=λx=>cN aa
  have fk:∀H G,∀t,VR tt (E.set r (.map b H G)) Pp (a.tmps.getD t undef) (look st.s t):=by
   intro H G t;refine(VR.fQ (λi y hy=>?_) (λ_ _ h=>h)).1 (hs t);by_cases hi:i=r
   ·subst hi;rw[U]at hy;cases hy;exact .inr ⟨b,bs,cl,H,G,rfl,by rw[bZ (cx U)]⟩
   ·exact .inl (by rw[bU (dy hi)];exact hy)
  have l:execOp a.eval o=(do let v <-Builtin.delete_ ⟨t::tr⟩ o.type #[.map (some b),a.eval k];pure (.value v):Sem Next):=by simp[execOp,S,resolve,invoke,builtin,ac]
  rcases X.find w R es.toList rows ⟨hl,c⟩with⟨i,y,row,h1,h2,h3,h4,h5,h6,h8,M⟩|⟨h1,h2,h8,M⟩
  ·have al:=cx h1;refine dX (v:=.tuple #[]) (w':={ w with heap:=w.heap.setIfInBounds b (.map (es.eraseIdxIfInBounds i) cl) }) ?_ ?_
   ·rw[l];simp[Builtin.delete_,run_underlying hu,getObj,setObj,Sem.run,hb,Y,M]
   ·refine dH.mk (.tup _ _ .nil) (fk (bs.eraseIdx i) cl) ?_ hK (λT=>by rw[f]at T;cases T);refine h.wP L U ⟨_,hb⟩ ?_;have g:(es.eraseIdxIfInBounds i).toList=es.toList.eraseIdx i:=yS;refine⟨_,rows.eraseIdx i,s _,by simp[cn,h8],?_,?_,?_,?_,?_,O⟩
    ·rw[g,JV,JV,hl]
    ·intro j z rw hz dG;rw[g,rQ]at hz;rw[rQ]at dG;split at hz
     ·rename_i J;rw[if_pos J]at dG;exact c j z rw hz dG
     ·rename_i J;rw[if_neg J]at dG;exact c (j+1) z rw hz dG
    ·rw[g,<-q];apply pD;intro j;simp only[cu,rQ];split<;>simp
    ·exact fR.sublist (JL _ _)
    ·intro x hx;exact c8 x ((JL _ _).subset hx)
  ·refine dX (v:=.tuple #[]) (w':={ w with heap:=w.heap.setIfInBounds b (.map es cl) }) ?_ ?_
   ·rw[l];simp[Builtin.delete_,run_underlying hu,getObj,setObj,Sem.run,hb,Y,M]
   ·refine dH.mk (.tup _ _ .nil) (fk bs cl) ?_ hK (λT=>by rw[f]at T;cases T);refine h.wP L U ⟨_,hb⟩ ?_;exact⟨_,rows,s _,by simp[cn,h8],hl,c,q,fR,c8,O⟩
theorem KM(y:ec P tt)(h:cL tt B E Pp st.o w)(hs:∀t,VR tt E Pp (a.tmps.getD t undef) (look st.s t))(x:o.op= .range t m)(l:tt t=some ti)(L:isMap ti=true)
 (S:ev st.s m= .mp r) {kc:CK}{e:TypeId}{d:D} (i:ew st.o r= .map kc e d)
 (hK:K (.it (ch st.o)) ⟨st.s,gi st.o [.iter r (.list [])]⟩):o.wp P a w (dH tt B dV E Pp st.o w o a K) Q:=by
 obtain⟨kt,e',hu,_,_,_⟩:=(y _ _ l).map L;have c:=eG hs m;rw[S]at c;have q:=cT i rfl;obtain⟨ri,f,s⟩:=h.wr.ob r _ q rfl;rw[eX,cI]at hK;generalize u:a.eval m=T at c;cases c with
 |mp _ b bs cl z=>
  rw[z]at f;cases f;obtain⟨es,rows,hb,rfl,hl,J,g,fR,c8,M⟩:=s;refine dX (v:=.pointer (some ⟨w.heap.size,0,none⟩)) (w':=w.alloc (.mapIter (some b) cl #[] cl)) ?_ ?_
  ·simp[execOp,x,u,Instr.range,run_underlying hu,getObj,Sem.run,hb]
  ·refine dH.mk (E':=E++[.iter w.heap.size]) (Pp':=Pp) (.it _ _ (by rw[<- h.wr.len];simp)) (fG hs) ?_ hK (λ_ ad v O=>O.grow h.wr.len (λ_ _ h=>h) (λk hk=>RowKit.Below.heap_alloc w _ k hk));exact h.new rfl ⟨b,bs,cl,[],fZ z,eh w _,rfl,λj R=>yE R⟩
theorem IP(q:ec P tt)(h:cL tt B E Pp st.o w)(hs:∀t,VR tt E Pp (a.tmps.getD t undef) (look st.s t))(f:o.op= .range t m)(l:tt t=some ti)(s:isMap ti=true)
 {e:TypeId}{d:D} (y:ev st.s m= .dmp e d)
 (hK:K (.it (ch st.o)) ⟨st.s,gi st.o [.diter e d (.list [])]⟩):o.wp P a w (dH tt B dV E Pp st.o w o a K) Q:=by
 obtain⟨kt,e',hu,_,_,_⟩:=(q _ _ l).map s;have c:=eG hs m;rw[y]at c;rw[eX,cI]at hK;generalize g:a.eval m=x at c
 have gV:∃t',RD tt Pp (.map t' e) x d:=by
  cases c with
  |dmp t' _ _ _ hr=>exact⟨t',hr⟩
 obtain⟨t',gV⟩:=gV;rcases gV.rC with⟨rfl,rfl⟩|⟨b,es,clock,rows,rfl,rfl,m⟩
 ·refine dX (v:=.pointer (some ⟨w.heap.size,0,none⟩)) (w':=w.alloc (.mapIter none 0 #[] 0)) ?_ ?_
  ·simp[execOp,f,g,Instr.range,run_underlying hu]
  ·refine dH.mk (E':=E++[.iter w.heap.size]) (Pp':=Pp) (.it _ _ (by rw[<- h.wr.len];simp)) (fG hs) ?_ hK (λ_ ad v i=>i.grow h.wr.len (λ_ _ h=>h) (λk hk=>RowKit.Below.heap_alloc w _ k hk));exact h.new rfl ⟨[],rfl,.inl ⟨rfl,rfl,_,_,_,eh w _⟩⟩
 ·have hb:=BN (h.wr.pi _ _ m.gR);refine dX (v:=.pointer (some ⟨w.heap.size,0,none⟩)) (w':=w.alloc (.mapIter (some b) clock #[] clock)) ?_ ?_
  ·simp[execOp,f,g,Instr.range,run_underlying hu,getObj,Sem.run,hb]
  ·refine dH.mk (E':=E++[.iter w.heap.size]) (Pp':=Pp) (.it _ _ (by rw[<- h.wr.len];simp)) (fG hs) ?_ hK (λ_ ad v i=>i.grow h.wr.len (λ_ _ h=>h) (λk hk=>RowKit.Below.heap_alloc w _ k hk));exact h.new rfl ⟨[],rfl,.inr ⟨b,es,clock,rows,rfl,m,eh w _,λj u=>yE u⟩⟩
theorem DF{b l clock:Nat}{es:Array MapEntry}{arr:List Nat}(hb:w.heap[b]? =some (.mapIter (some l) clock ⟨arr⟩ clock))(u:w.heap[l]? =some (.map es clock))(d:∀x∈es.toList,x.born<clock)(ty:TypeId):
 ((∀x∈es.toList,x.born∈arr)/\(Instr.next (.pointer (some ⟨b,0,none⟩)) false ty).run P w= .ok (.tuple #[.bool false]) w)\/
 ∃x g,x∈es.toList/\x.born∉arr/\(g=w\/g=w.drew)/\(Instr.next (.pointer (some ⟨b,0,none⟩)) false ty).run P w= .ok (.tuple #[.bool true,x.key,x.val]) { g with heap:=w.heap.setIfInBounds b (.mapIter (some l) clock ⟨arr++[x.born]⟩ clock) }:=by
 simp only[Instr.next,getObj,Sem.run_bind,Sem.run,hb,u,Result.andThen,next_test_false ⟨arr⟩ es clock clock d (cg _),cv,if_false];have c:∀x∈(GV (λe=> !(⟨arr⟩:Array Nat).contains e.born) es).toList,x∈es.toList/\x.born∉arr:=λx f=>by simp at f ⊢;exact f
 have h:(GV (λe=> !(⟨arr⟩:Array Nat).contains e.born) es)= #[]->∀x∈es.toList,x.born∈arr:=λh0 x f=>by rw[CG]at h0;have:=h0 x (yU f);simpa using this
 generalize GV (λe=> !(⟨arr⟩:Array Nat).contains e.born) es=L at c h ⊢;have e1:L.filter (λx=>decide (x.born<clock))=L:=Array.filter_eq_self.2 (λx f=>by simpa using d x (c x (yU f)).1);have e2:L.filter (λx=>decide (x.born>=clock))= #[]:=by rw[CG];intro x f;have:=d x (c x (yU f)).1;simp;omega
 simp only[e1,e2,Array.append_empty];by_cases h0:L.size=0
 ·left;have:L= #[]:=Array.eq_empty_of_size_eq_zero h0;subst this;refine⟨h rfl,?_⟩;simp[choose,Sem.run,Question.forced]
 ·right;have q:L.isEmpty=false:=by simp[Array.isEmpty,h0]
  simp only[q,cv,if_false,Array.empty_append,Cy]
  have s:∃(j:Nat) (g:World),j<L.size/\(g=w\/g=w.drew)/\(choose (Question.mapNext L.size)).run P w= .ok j g:=by
   by_cases hf:L.size<=1
   ·exact⟨0,w,yO,.inl rfl,by simp[choose,Sem.run,Question.forced,hf]⟩
   ·refine⟨w.tape w.drawn (.mapNext L.size) % L.size,w.drew,ET _ yO,.inr rfl,?_⟩;simp only[choose,Sem.run,Question.forced,decide_eq_true_eq,hf,if_false,Question.cut];rfl
  obtain⟨j,g,v,k,i⟩:=s;have f:=c L[j] yS;refine⟨L[j],g,f.1,f.2,k,?_⟩;have y:g.heap=w.heap:=by rcases k with rfl|rfl<;>rfl
  simp only[i,Array.getElem?_map,du v,cr,Sem.run_bind,setObj,Sem.run,y,hb,Result.andThen,Sem.run_pure];simp
theorem uV{l:List Nat}(h:l.Nodup){i j:Nat}{x:Nat}(c:l[i]? =some x)(b:l[j]? =some x):i=j:=by
 have h1:=cx c;have h2:=cx b;rw[bx h1]at c;rw[bx h2]at b;simp at c b;have d:=hJ.1 h;rcases zv i j with h3|h3|h3
 ·exact absurd (c.trans b.symm) (d i j h1 h2 h3)
 ·exact h3
 ·exact absurd (b.trans c.symm) (d j i h2 h1 h3)
theorem Of(aA:ec P tt)(h:cL tt B E Pp st.o w)(hs:∀t,VR tt E Pp (a.tmps.getD t undef) (look st.s t))(R:o.op= .next it false){i m:Nat}(hx:ev st.s it= .it i){d:D}(aF:ew st.o i= .iter m seen){kc:CK}{e:TypeId}(ao:ew st.o m= .map kc e d)
 (aE:tt e=some A)
 (aG:dz.nE d seen->K (.tup [.bl false]) st) (ap:∀j,dz.qb d seen j->K (.tup [.bl true,lW dz kc (dz.cell d j 0),fa A (jN dz d j 1 A.bT)]) ⟨st.s,gU st.o i (.iter m (dz.nL seen j))⟩)
:o.wp P a w (dH tt B dV E Pp st.o w o a K) Q:=by
 have S:=eG hs it;rw[hx]at S;have g:=cT aF rfl;have X:=cT ao rfl;obtain⟨ri,ak,ae⟩:=h.wr.ob i _ g rfl;obtain⟨rm,ai,U⟩:=h.wr.ob m _ X rfl;have f:fM dV o.op=false:=by rw[R];rfl
 generalize V:a.eval it=vi at S;cases S with
 |it _ b hE=>
  rw[hE]at ak;cases ak;obtain⟨bm,borns,clock,z,af,hb,rfl,aj⟩:=ae;rw[af]at ai;cases ai;obtain⟨es,rows,am,rfl,hl,W,c,fR,c8,aI⟩:=U;have aJ:borns.length=es.toList.length:=by rw[<- c];simp
  have ab:∀x∈es.toList,x.born<clock:=λx hx=>c8 _ (by rw[<- c];exact Np hx);have l:∀(j:Nat) x,es.toList[j]? =some x->borns[j]? =some x.born:=λj x y=>by rw[<- c,cu,y];rfl
  have M:∀(j:Nat) x,es.toList[j]? =some x->(x.born∈z.map (λ(j:Nat)=>borns.getD j 0)↔j∈z):=by
   intro j x y;rw[bP];constructor
   ·rintro⟨k,hk,ax⟩;have h1:=l j x y;have h2:borns[k]? =some x.born:=by have:=aj k hk;rw[bx this,<-ax];simp[cc,this]
    rw[uV fR h1 h2];exact hk
   ·intro hk;exact⟨j,hk,by have:=l j x y;simp[cc,this]⟩
  have u:∀(j:Nat),([D.int (j:Int)]∈z.map (λ(j:Nat)=>[D.int (j:Int)])↔j∈z):=by
   intro j;rw[bP];constructor
   ·rintro⟨k,hk,aw⟩;simp at aw;have:k=j:=yO;rw[<- this];exact hk
   ·intro hk;exact⟨j,hk,rfl⟩
  rcases DF (P:=P) hb am ab o.type with⟨ag,s⟩|⟨x,T,aB,av,L,s⟩
  ·refine dX (v:=.tuple #[.bool false]) (w':=w) (by simp[execOp,R,V,s]) ?_;refine dH.mk (s':=st.s) (o':=st.o) (.tup _ _ (.cons _ _ _ _ (.bl _) .nil)) hs h (aG ?_) (λZ=>by rw[f]at Z;cases Z);intro j y;have J:j<es.toList.length:=by rw[hl];exact y
   show [D.int (j:Int)]∈z.map _;rw[u];exact(M j _ (bx J)).1 (ag _ (bu J))
  ·obtain⟨j,y⟩:=fF aB;have aM:=cx y;have au:j∉z:=λhk=>av ((M j x y).2 hk);have dG:rows[j]? =some (rows[j]'yO):=bx yO;obtain⟨kd,vd,gV,e2,e3,e4,e5,e6⟩:=W j x _ y dG;have q:∀n,dz.cell (.list rows) (j:Int) n=(kd::vd).getD n .nil:=by intro n;show ((cn (.list rows)).getD (j:Int).toNat []).getD n .nil=_;simp[cn,cc,dG,gV]
   have aa:b<w.heap.size:=by
    rcases bV b w.heap.size with h'|h'
    ·exact h'
    ·simp[cC h']at hb
   refine dX (v:=.tuple #[.bool true,x.key,x.val]) (w':={ T with heap:=w.heap.setIfInBounds b (.mapIter (some bm) clock ⟨z.map (λ(j:Nat)=>borns.getD j 0)++[x.born]⟩ clock) }) (by simp[execOp,R,V,s]) ?_;have al:=ap (j:Int) ⟨yO,by show (j:Int)<((cn (.list rows)).length:Int);simp[cn];omega,by show [D.int (j:Int)]∉z.map _;rw[u];exact au⟩;rw[fV]at al;refine dH.mk (E':=E) (Pp':=Pp) ?_ hs ?_ al (λZ=>by rw[f]at Z;cases Z)
   ·refine .tup _ _ (.cons _ _ _ _ (.bl _) (.cons _ _ _ _ ?_ (.cons _ _ _ _ ?_ .nil)))
    ·rw[q 0];exact pj e2
    ·refine uE aA aE e3 e4 e5 e6 ?_;intro n dd hn;rw[q,nZ];simp[cc,hn]
   ·have ac:=cx g;have aD:T.os=w.os:=by rcases L with rfl|rfl<;>rfl
    have ay:T.tape=w.tape:=by rcases L with rfl|rfl<;>rfl
    have ah:T.output=w.output:=by rcases L with rfl|rfl<;>rfl
    have aO:w.drawn<=T.drawn:=by rcases L with rfl|rfl;exact cg _;exact pQ _
    refine h.wm g rfl hE rfl (λ_ _=>rfl) hE (.inl (.refl _)) yS ?_ (by rw[bZ ac]) (λ_=>?_) aD ay ah yS ?_ (λ_ _ h=>h) (λ_ _ h=>.inl h) (λb' aC=>.inl aC) ?_
    ·intro j' ar J Y hl;rw[bU (dy J)]at Y;exact⟨ar,Y,hl,λ_ _ h=>h⟩
    ·refine⟨bm,borns,clock,z++[j],af,?_,?_,?_⟩
     ·show (w.heap.setIfInBounds b _)[b]? =_;rw[cN aa];have:=l j x y;simp[cc,this]
     ·simp[dz,cn]
     ·intro k hk;simp at hk;rcases hk with hk|rfl
      ·exact aj k hk
      ·omega
    ·intro k _ O;have:k≠b:=λe=>O (by rw[e];rfl);simp[cE (dy this)]
    ·intro ad v hv;have hc:=h.wr.pi ad v hv;have O:ad.block≠b:=by intro e;simp[pc,e,hb]at hc
     rw[<- hc];refine gF ?_;simp[cE (dy O)]
theorem K4(aw:ec P tt)(h:cL tt B E Pp st.o w)(hs:∀t,VR tt E Pp (a.tmps.getD t undef) (look st.s t))(J:o.op= .next it false){i:Nat}(hx:ev st.s it= .it i){e:TypeId}{d:D}(aB:ew st.o i= .diter e d seen)
 (aA:tt e=some A)
 (af:dz.nE d seen->K (.tup [.bl false]) st) (al:∀j,dz.qb d seen j->K (.tup [.bl true,lW dz .str (dz.cell d j 0),fa A (jN dz d j 1 A.bT)]) ⟨st.s,gU st.o i (.diter e d (dz.nL seen j))⟩)
:o.wp P a w (dH tt B dV E Pp st.o w o a K) Q:=by
 have U:=eG hs it;rw[hx]at U;have l:=cT aB rfl;obtain⟨ri,ah,ab⟩:=h.wr.ob i _ l rfl;have f:fM dV o.op=false:=by rw[J];rfl
 generalize S:a.eval it=vi at U;cases U with
 |it _ b hE=>
  rw[hE]at ah;cases ah;obtain⟨z,rfl,⟨rfl,rfl,n,ss,mm,hb⟩|⟨bm,es,clock,rows,rfl,m,hb,ag⟩⟩:=ab
  ·refine dX (v:=.tuple #[.bool false]) (w':=w) (by simp[execOp,J,S,Instr.next,getObj,Sem.run,hb]) ?_;refine dH.mk (s':=st.s) (o':=st.o) (.tup _ _ (.cons _ _ _ _ (.bl _) .nil)) hs h (af ?_) (λO=>by rw[f]at O;cases O);intro j g;simp[cn]at g
  have aj:=BN (h.wr.pi _ _ m.gR);have hl:=m.len;have W:=m.Qc;have fR:=m.nd;have c8:=m.lt;obtain⟨borns,c⟩:∃borns,es.toList.map (·.born)=borns:=⟨_,rfl⟩;rw[c]at fR c8 hb;have aD:borns.length=es.toList.length:=by rw[<- c];simp
  have Z:∀x∈es.toList,x.born<clock:=λx hx=>c8 _ (by rw[<- c];exact Np hx);have q:∀(j:Nat) x,es.toList[j]? =some x->borns[j]? =some x.born:=λj x g=>by rw[<- c,cu,g];rfl
  have R:∀(j:Nat) x,es.toList[j]? =some x->(x.born∈z.map (λ(j:Nat)=>borns.getD j 0)↔j∈z):=by
   intro j x g;rw[bP];constructor
   ·rintro⟨k,hk,ar⟩;have h1:=q j x g
    have h2:borns[k]? =some x.born:=by
     have:k<borns.length:=by have:=ag k hk;omega
     rw[bx this,<-ar];simp[cc,this]
    rw[uV fR h1 h2];exact hk
   ·intro hk;exact⟨j,hk,by have:=q j x g;simp[cc,this]⟩
  have y:∀(j:Nat),([D.int (j:Int)]∈z.map (λ(j:Nat)=>[D.int (j:Int)])↔j∈z):=by
   intro j;rw[bP];constructor
   ·rintro⟨k,hk,aq⟩;simp at aq;have:k=j:=yO;rw[<- this];exact hk
   ·intro hk;exact⟨j,hk,rfl⟩
  rcases DF (P:=P) hb aj Z o.type with⟨ac,u⟩|⟨x,V,ax,ap,M,u⟩
  ·refine dX (v:=.tuple #[.bool false]) (w':=w) (by simp[execOp,J,S,u]) ?_;refine dH.mk (s':=st.s) (o':=st.o) (.tup _ _ (.cons _ _ _ _ (.bl _) .nil)) hs h (af ?_) (λO=>by rw[f]at O;cases O);intro j g;have L:j<es.toList.length:=by rw[hl];exact g
   show [D.int (j:Int)]∈z.map _;rw[y];exact(R j _ (bx L)).1 (ac _ (bu L))
  ·obtain⟨j,g⟩:=fF ax;have aG:=cx g;have ao:j∉z:=λhk=>ap ((R j x g).2 hk);have dG:rows[j]? =some (rows[j]'yO):=bx yO;obtain⟨kd,vd,gV,e2,e3,e4,e5,e6⟩:=W j x _ g dG;have s:∀n,dz.cell (.list rows) (j:Int) n=(kd::vd).getD n .nil:=by intro n;show ((cn (.list rows)).getD (j:Int).toNat []).getD n .nil=_;simp[cn,cc,dG,gV]
   have Y:b<w.heap.size:=by
    rcases bV b w.heap.size with h'|h'
    ·exact h'
    ·simp[cC h']at hb
   refine dX (v:=.tuple #[.bool true,x.key,x.val]) (w':={ V with heap:=w.heap.setIfInBounds b (.mapIter (some bm) clock ⟨z.map (λ(j:Nat)=>borns.getD j 0)++[x.born]⟩ clock) }) (by simp[execOp,J,S,u]) ?_;have ai:=al (j:Int) ⟨yO,by show (j:Int)<((cn (.list rows)).length:Int);simp[cn];omega,by show [D.int (j:Int)]∉z.map _;rw[y];exact ao⟩;rw[fV]at ai;refine dH.mk (E':=E) (Pp':=Pp) ?_ hs ?_ ai (λO=>by rw[f]at O;cases O)
   ·refine .tup _ _ (.cons _ _ _ _ (.bl _) (.cons _ _ _ _ ?_ (.cons _ _ _ _ ?_ .nil)))
    ·rw[s 0];exact pj e2
    ·refine uE aw aA e3 e4 e5 e6 ?_;intro n dd hn;rw[s,nZ];simp[cc,hn]
   ·have aa:=cx l;have az:V.os=w.os:=by rcases M with rfl|rfl<;>rfl
    have au:V.tape=w.tape:=by rcases M with rfl|rfl<;>rfl
    have ae:V.output=w.output:=by rcases M with rfl|rfl<;>rfl
    have aI:w.drawn<=V.drawn:=by rcases M with rfl|rfl;exact cg _;exact pQ _
    refine h.wm l rfl hE rfl (λ_ _=>rfl) hE (.inl (.refl _)) yS ?_ (by rw[bZ aa]) (λ_=>?_) az au ae yS ?_ (λ_ _ h=>h) (λ_ _ h=>.inl h) (λb' ay=>.inl ay) ?_
    ·intro j' an L X hl;rw[bU (dy L)]at X;exact⟨an,X,hl,λ_ _ h=>h⟩
    ·refine⟨z++[j],by simp[dz,cn],.inr ⟨bm,es,clock,rows,rfl,m,?_,?_⟩⟩
     ·show (w.heap.setIfInBounds b _)[b]? =_;rw[cN Y,c];have:=q j x g;simp[cc,this]
     ·intro k hk;simp at hk;rcases hk with hk|rfl
      ·exact ag k hk
      ·omega
    ·intro k _ T;have:k≠b:=λe=>T (by rw[e];rfl);simp[cE (dy this)]
    ·intro ad v hv;have hc:=h.wr.pi ad v hv;have T:ad.block≠b:=by intro e;simp[pc,e,hb]at hc
     rw[<- hc];refine gF ?_;simp[cE (dy T)]
theorem L0(ac:ec P tt)(h:cL tt B E Pp st.o w)(hs:∀t,VR tt E Pp (a.tmps.getD t undef) (look st.s t))(X:o.op= .entry it){i m:Nat}(hx:ev st.s it= .it i){d:D}(ag:ew st.o i= .iter m seen){kc:CK}{e:TypeId}(Z:ew st.o m= .map kc e d)
 (ae:tt e=some A) (V:dz.idx 0 (dz.len seen)) (c:dz.idx (dz.last seen) (dz.len d))
 (hK:K (.tup [lW dz kc (dz.cell d (dz.last seen) 0),fa A (jN dz d (dz.last seen) 1 A.bT)]) st)
:o.wp P a w (dH tt B dV E Pp st.o w o a K) Q:=by
 have u:=eG hs it;rw[hx]at u;have L:=cT ag rfl;have J:=cT Z rfl;obtain⟨ri,R,M⟩:=h.wr.ob i _ L rfl;obtain⟨rm,O,y⟩:=h.wr.ob m _ J rfl;generalize U:a.eval it=vi at u;cases u with
 |it _ b hE=>
  rw[hE]at R;cases R;obtain⟨bm,borns,clock,S,aa,hb,rfl,ap⟩:=M;rw[aa]at O;cases O;obtain⟨es,rows,W,rfl,hl,z,g,fR,c8,ah⟩:=y;have l:S≠[]:=by rintro rfl;have:=V.2;simp[dz,cn]at this
  obtain⟨k,j,rfl⟩:∃k j,S=k++[j]:=⟨S.dropLast,S.getLast l,(mX l).symm⟩;have ab:dz.last (.list ((k++[j]).map λ(j:Nat)=>[D.int (j:Int)]))=(j:Int):=by simp[dz,cn]
  rw[ab]at hK c;have Y:j<es.toList.length:=by have:=c.2;simp[dz,cn]at this;omega
  have T:es.toList[j]? =some (es.toList[j]):=bx Y;generalize es.toList[j]=x at T;have dG:rows[j]? =some (rows[j]'yO):=bx yO;obtain⟨kd,vd,gV,e2,e3,e4,e5,e6⟩:=z j x _ T dG;have f:∀n,dz.cell (.list rows) (j:Int) n=(kd::vd).getD n .nil:=by intro n;show ((cn (.list rows)).getD (j:Int).toNat []).getD n .nil=_;simp[cn,cc,dG,gV]
  have af:borns[j]? =some x.born:=by rw[<- g,cu,T];rfl
  have q:es.find? (·.born==x.born)=some x:=by rw[<- Ns];exact find_born x es.toList (by rw[g];exact fR) (fi T)
  refine dX (v:=.tuple #[x.key,x.val]) (w':=w) ?_ ?_
  ·have s:(⟨(k++[j]).map (λ(j:Nat)=>borns.getD j 0)⟩:Array Nat).back? =some x.born:=by simp[Array.back?,cc,af]
   simp only[execOp,X,U,Instr.entry,getObj,Sem.run_bind,Sem.run,hb,W,Result.andThen_ok,s,bne_self_eq_false,cv,if_false,q,Sem.run_pure]
  ·refine dH.mk (s':=st.s) (o':=st.o) ?_ hs h hK (λ_ ad v hv=>hv);refine .tup _ _ (.cons _ _ _ _ ?_ (.cons _ _ _ _ ?_ .nil))
   ·rw[f 0];exact pj e2
   ·refine uE ac ae e3 e4 e5 e6 ?_;intro n dd hn;rw[f,nZ];simp[cc,hn]
theorem Jk(X:ec P tt)(h:cL tt B E Pp st.o w)(hs:∀t,VR tt E Pp (a.tmps.getD t undef) (look st.s t))(U:o.op= .entry it){i:Nat}(hx:ev st.s it= .it i){e:TypeId}{d:D}(aa:ew st.o i= .diter e d seen)
 (Y:tt e=some A) (y:dz.idx 0 (dz.len seen)) (f:dz.idx (dz.last seen) (dz.len d))
 (hK:K (.tup [lW dz .str (dz.cell d (dz.last seen) 0),fa A (jN dz d (dz.last seen) 1 A.bT)]) st)
:o.wp P a w (dH tt B dV E Pp st.o w o a K) Q:=by
 have u:=eG hs it;rw[hx]at u;have J:=cT aa rfl;obtain⟨ri,M,L⟩:=h.wr.ob i _ J rfl;generalize S:a.eval it=vi at u;cases u with
 |it _ b hE=>
  rw[hE]at M;cases M;obtain⟨O,rfl,⟨rfl,rfl,n,ss,mm,hb⟩|⟨bm,es,clock,rows,rfl,m,hb,aj⟩⟩:=L
  ·have:=y.2;simp[dz,cn]at this
  have T:=BN (h.wr.pi _ _ m.gR);have hl:=m.len;have z:=m.Qc;have fR:=m.nd;obtain⟨borns,c⟩:∃borns,es.toList.map (·.born)=borns:=⟨_,rfl⟩;rw[c]at fR hb;have l:O≠[]:=by rintro rfl;have:=y.2;simp[dz,cn]at this
  obtain⟨k,j,rfl⟩:∃k j,O=k++[j]:=⟨O.dropLast,O.getLast l,(mX l).symm⟩;have W:dz.last (.list ((k++[j]).map λ(j:Nat)=>[D.int (j:Int)]))=(j:Int):=by simp[dz,cn]
  rw[W]at hK f;have V:j<es.toList.length:=by have:=f.2;simp[dz,cn]at this;omega
  have R:es.toList[j]? =some (es.toList[j]):=bx V;generalize es.toList[j]=x at R;have dG:rows[j]? =some (rows[j]'yO):=bx yO;obtain⟨kd,vd,gV,e2,e3,e4,e5,e6⟩:=z j x _ R dG;have g:∀n,dz.cell (.list rows) (j:Int) n=(kd::vd).getD n .nil:=by intro n;show ((cn (.list rows)).getD (j:Int).toNat []).getD n .nil=_;simp[cn,cc,dG,gV]
  have Z:borns[j]? =some x.born:=by rw[<- c,cu,R];rfl
  have q:es.find? (·.born==x.born)=some x:=by rw[<- Ns];exact find_born x es.toList (by rw[c];exact fR) (fi R)
  refine dX (v:=.tuple #[x.key,x.val]) (w':=w) ?_ ?_
  ·have s:(⟨(k++[j]).map (λ(j:Nat)=>borns.getD j 0)⟩:Array Nat).back? =some x.born:=by simp[Array.back?,cc,Z]
   simp only[execOp,U,S,Instr.entry,getObj,Sem.run_bind,Sem.run,hb,T,Result.andThen_ok,s,bne_self_eq_false,cv,if_false,q,Sem.run_pure]
  ·refine dH.mk (s':=st.s) (o':=st.o) ?_ hs h hK (λ_ ad v hv=>hv);refine .tup _ _ (.cons _ _ _ _ ?_ (.cons _ _ _ _ ?_ .nil))
   ·rw[g 0];exact pj e2
   ·refine uE X Y e3 e4 e5 e6 ?_;intro n dd hn;rw[g,nZ];simp[cc,hn]
end
end
section
variable [Inhabited pB]
open Go
section
variable {P:Program}{G:ea}{B:jc}{E:List RI}{Pp:fE}{w:World}{st:St}{a:Act}
variable {o:Oper}{Q:Exit->Act->World->Prop}{K:PV->St->Prop}{r r0:Option Nat}{x m k:Operand}{f:FuncId}{t e:TypeId}{z:Array Operand}{ts:Array TypeId}{n:Nat}{w:World}{R:Ending->World->Prop}{q:TI}
def kS(r:Option Nat):Fence:={ Fence.wide with round:=r }
def oo(n:Nat):(kS r).room n:=λ_ h=>by simp[kS,Fence.wide]at h
def we{args:Array Value}(h:Calls P f args w R):CallsIn (kS r) n P f args w R:=by have h1:CallsIn Fence.wide n P f args w R:=callsIn_wide.2 h;exact⟨trivial,λcs _=>h1.2 cs (room_wide _)⟩
def Dr{l:Nat}{tmps:Array Value}{assign body:Code}(h:RoundIn Fence.wide n P l f tmps assign body w R):RoundIn (kS r) n P l f tmps assign body w R:=⟨trivial,λc cs _=>h.2 c cs (room_wide _)⟩
def SU{next:Act->World->Prop}(i:∀c,o.op≠ .defer c)(h:o.wp P a w next Q):o.wpIn (kS r) 0 P a w next Q:=by
 refine⟨λ_ _=>trivial,?_⟩;show o.uponIn (kS r) 0 P a next Q ((o.semAt r a.eval).run P w)
 rw[Oper.semAt_eq r _ _ i];unfold Oper.wp at h;have b:∀{n:Nat},(kS r).depth.isSome=true->1<=n:=λh=>by simp[kS,Fence.wide]at h
 cases g:(execOp a.eval o).run P w with
 |ok j w'=>
  rw[g]at h;cases j with
  |value v=>exact h
  |skip=>exact h
  |defer d=>exact h
  |enter f args=>exact⟨b,we h⟩
  |row row args=>exact⟨b,λc cs _=>let ⟨v,l,r2,s⟩:=h c cs;⟨v,l,r2,stepsIn_wide.2 s⟩⟩
  |_=>exact h.elim
 |halt x w'=>
  rw[g]at h;cases x with
  |panic v=>exact h
  |_=>exact h.elim
def mg(c:ec P G.tt)(h:cL G.tt B E Pp st.o w)(hs:∀t,VR G.tt E Pp (a.tmps.getD t undef) (look st.s t))(hc:cF dz G.tt o.op o.type st.s st.o λv=>K v st):
 o.wp P a w (dH G.tt B (G.dV,G.live) E Pp st.o w o a K) Q:=by
 obtain⟨v,pv,hr,b,hK⟩:=As c h.wr.rw hs hc;exact dX (hr w rfl) (dH.mk (s':=st.s) (o':=st.o) b hs h hK (λ_ ad v b=>b))
def ml(hs:∀t,VR G.tt E Pp (a.tmps.getD t undef) (look st.s t)):∀(xs:List Operand)(ts:List TypeId),eJ G.tt E Pp (xs.map a.eval) (mP G st.s xs ts)
 |[],_=>by simp[mP];exact .nil
 |x::xs,[]=>.cons _ _ _ _ (eG hs x) (ml hs xs [])
 |x::xs,t::ts=>.cons _ _ _ _ (iE hs t x) (ml hs xs ts)
def D4(h:lI x=true):a.eval x= .slice none 0 0:=by
 unfold lI at h;split at h
 ·rfl
 ·cases h
def sV(hs:∀t,VR G.tt E Pp (a.tmps.getD t undef) (look st.s t)):∀(xs:List Operand)(ts:List TypeId),eJ G.tt E Pp (xs.map a.eval) (ud G st.s xs ts)
 |[],_=>by simp[ud];exact .nil
 |x::xs,[]=>.cons _ _ _ _ (eG hs x) (sV hs xs [])
 |x::xs,t::ts=>.cons _ _ _ _ (by
  cases b:lI x with
  |true=>rw[D4 b];exact .lf
  |false=>exact iE hs t x) (sV hs xs ts)
def Gl(hs:∀t,VR G.tt E Pp (a.tmps.getD t undef) (look st.s t))(f:FuncId)(xs:List Operand)(ts:List TypeId):eJ G.tt E Pp (xs.map a.eval) (B7 G f st.s xs ts):=by
 unfold B7;cases eI f G.live with
 |true=>exact sV hs xs ts
 |false=>exact ml hs xs ts
def pf:∀(xs:List Operand)(ts:List TypeId){E:List RI}{c:List Ob},cL G.tt B E Pp c w->(∀t,VR G.tt E Pp (a.tmps.getD t undef) (look st.s t))->
 ∃E',cL G.tt B E' Pp (c++nO G xs ts) w/\(∀(i:Nat) x,E[i]? =some x->E'[i]? =some x)/\eJ G.tt E' Pp (xs.map a.eval) (nu G st.s c.length xs ts)
 |[],ts,E,c,h,_=>⟨E,by simpa[nO]using h,λ_ _ h=>h,by simp[nu];exact .nil⟩
 |x::xs,[],E,c,h,hs=>by
  obtain⟨E',h1,h2,h3⟩:=pf xs [] h hs;have l:nO G xs []=[]:=by cases xs<;>rfl
  rw[l]at h1;refine⟨E',by simpa[nO]using h1,h2,?_⟩;exact .cons _ _ _ _ ((eG hs x).mono h2 (λ_ _ h=>h)) h3
 |x::xs,t::ts,E,c,h,hs=>by
  cases he:HI G x t with
  |none=>obtain⟨E',h1,h2,h3⟩:=pf xs ts h hs;refine⟨E',by simpa[nO,he]using h1,h2,?_⟩;simp only[nu,he,bJ];exact .cons _ _ _ _ ((iE hs t x).mono h2 (λ_ _ h=>h)) h3
  |some e=>
   have d:a.eval x= .slice none 0 0:=by
    unfold HI at he;split at he
    ·rename_i d;unfold lI at d;split at d
     ·rfl
     ·simp at d
    ·cases he
   have g:cL G.tt B (E++[.row0]) Pp (c++[.row e (.list []) true]) w:=⟨h.wr.push (λ_=>rfl) (λb hb=>by simp[RI.cZ]at hb),qo h.pre,h.rv,h.fr,h.jo,h.fresh.push h.wr.len (λb hb=>by simp[RI.cZ]at hb)⟩;obtain⟨E',h1,h2,h3⟩:=pf xs ts g (λt=>(hs t).mono mem_push (λ_ _ h=>h));refine⟨E',by simpa[nO,he]using h1,λi y j=>h2 i y (mem_push i y j),?_⟩;simp only[nu,he,bJ,d];refine .cons _ _ _ _ (.row0 _ _ (h2 _ _ ?_)) (yU h3);rw[<- h.wr.len];simp
def Rv(h:cL G.tt B E Pp st.o w)(hs:∀t,VR G.tt E Pp (a.tmps.getD t undef) (look st.s t)){t r:Nat}(b:o.op= .move (.tmp t))(hl:look st.s t= .row e r){kp:List FuncId×List FuncId}
 (hK:K (.row e r) ⟨F9 st.o r st.s,fw [r] 0 st.o⟩):o.wp P a w (dH G.tt B kp E Pp st.o w o a K) Q:=by
 have c:=hs t;rw[hl]at c;have h1:=h.mN [r];refine dX (v:=a.tmps.getD t undef) (w':=w) ?_ ?_
 ·simp only[execOp,b];rfl
 ·refine dH.mk (c.mono (λ_ _ h=>h) (λ_ _ h=>.inl h)) ?_ h1 hK (λ_ ad u hu=>hu.mN _);intro t';rw[va];have h2:=hs t';generalize look st.s t'=p at h2;unfold Oq;split
  ·rename_i e' x;cases hb:nb x r with
   |false=>exact h2.mono (λ_ _ h=>h) (λ_ _ h=>.inl h)
   |true=>have:=cR hb;subst this;exact(sS h.wr 8 _ _ h2 (λi d=>d)).mono (λ_ _ h=>yE h) (λ_ _ h=>h)
  ·exact h2.mono (λ_ _ h=>h) (λ_ _ h=>.inl h)
def rM{vals:List Value}{kp:Bool}{args:List PV}(A:ec P G.tt)(h:cL G.tt B E Pp st.o w)(hs:∀t,VR G.tt E Pp (a.tmps.getD t undef) (look st.s t))(s:eJ G.tt E Pp vals args)
 (b:(execOp a.eval o).run P w=(callFunc f ⟨vals⟩).run P w) (hc:uk G (jT P G.tt) kp f args st K) (p:fM (G.dV,G.live) o.op=true->(kp&&eI f G.dV)=false/\eI f G.live=false):
 o.wp P a w (dH G.tt B (G.dV,G.live) E Pp st.o w o a K) Q:=by
 have fin:∀e w',(∃v pv s' o' E' Pp',e=Ending.returned v/\VR G.tt E' Pp' v pv/\(∀t,VR G.tt E' Pp' (a.tmps.getD t undef) (look s' t))/\cL G.tt B E' Pp' o' w'/\K pv ⟨s',o'⟩/\
  ((kp&&eI f G.dV)=false->eI f G.live=false->∀ad v,nY G.tt E Pp st.o w ad v->nY G.tt E' Pp' o' w' ad v)/\(∀ad v,Pp ad v->Pp' ad v))->∃v,e= .returned v/\dH G.tt B (G.dV,G.live) E Pp st.o w o a K (a.put o.dst v) w':=by
  rintro e w' ⟨v,pv,s',o',E',Pp',rfl,l,j,i,hK,u,y⟩;exact⟨v,rfl,dH.mk l j i hK (λc=>u (p c).1 (p c).2) y⟩
 rcases Mp rfl h hs s hc with⟨h1,h2⟩|⟨v,w',h1,h2⟩
 ·simp only[Oper.wp,b,h1];refine h2.mono ?_;intro e w' he;obtain⟨v,rfl,d⟩:=fin e w' he;exact d
 ·obtain⟨C,g,d⟩:=fin _ _ h2;cases g;exact dX (by rw[b];exact h1) d
def tT(s:ec P G.tt)(h:cL G.tt B E Pp st.o w)(hs:∀t,VR G.tt E Pp (a.tmps.getD t undef) (look st.s t))(j:o.op= .mapUpdate t m k x\/o.op= .insert t m k x)
 (hc:rD dz G t m k x st (K .undef)):o.wp P a w (dH G.tt B (G.dV,G.live) E Pp st.o w o a K) Q:=by
 unfold rD at hc;split at hc
 ·rename_i ti p;cases hb:isMap ti with
  |false=>rw[hb]at hc;exact hc.elim
  |true=>
   rw[hb]at hc;simp only[cond_true]at hc;split at hc
   ·rename_i N q i y;split at hc
    ·rename_i kc l;cases g:jM kc (fK G.tt st.s (ti.ar-1) k)with
     |false=>rw[g]at hc;exact hc.elim
     |true=>
      rw[g]at hc;simp only[cond_true]at hc;split at hc
      ·rename_i r F;split at hc
       ·rename_i cs c;split at hc
        ·rename_i C k' n L;cases b:(Gb C k'&&uW C n cs)with
         |false=>rw[b]at hc;exact hc.elim
         |true=>rw[b]at hc;rw[bw]at b;have u:=yv b.1;subst u;exact FY s h hs j p hb i l L F c b.2 hc
        ·exact hc.elim
       ·rename_i v e d c;cases b:(decide (kc=v)&&nb e ti.el&&gZ 0 (ch q.bT)&&iG q.bT (cS (ng st.o 8) (flat (fK G.tt st.s ti.el x)))&&gE hX (flat (fK G.tt st.s ti.el x))&&zq q.agg (fK G.tt st.s ti.el x)&&eu (eV (ids st.o 8) (flat (fK G.tt st.s ti.el x))))with
        |false=>rw[b]at hc;exact hc.elim
        |true=>rw[b]at hc;simp only[bw,decide_eq_true_eq,cI]at b;obtain⟨⟨⟨⟨⟨⟨u,A⟩,D⟩,J⟩,I⟩,H⟩,M⟩:=b;have A:=cR A;have D:0+1<=q.bT.length:=dK D;subst u A;exact I4 s h hs j p hb i y l g F c yO J I H M hc
       ·exact hc.elim
      ·exact hc.elim
    ·exact hc.elim
   ·exact hc.elim
 ·exact hc.elim
def vW(c:ec P G.tt)(h:cL G.tt B E Pp st.o w)(hs:∀t,VR G.tt E Pp (a.tmps.getD t undef) (look st.s t))(b:o.op= .mapUpdate t m k x\/o.op= .insert t m k x)
 (hc:u6 dz G t m k x st (K .undef)):o.wp P a w (dH G.tt B (G.dV,G.live) E Pp st.o w o a K) Q:=by
 unfold u6 at hc;split at hc
 ·rename_i ti u;split at hc
  ·rename_i j A;obtain⟨Pp',h1,h2,h3,_⟩:=Ad j h hs;refine Oper.wp_mono ?_ (tT (K:=K) c h1 h3 b hc);rintro C w' ⟨d,E',g,v,pv,e1,e2,e3,s,l,_,y⟩;refine⟨d,E',g,v,pv,e1,e2,e3,s,l,λi=>?_,λad v p=>y _ _ (h2 _ _ p)⟩;rcases b with b|b<;>rw[b]at i<;>cases i
  ·exact tT c h hs b hc
 ·exact hc.elim
def xT(h:wG q=true){d kd:D}(g:dz.mJ d kd=false){E:List RI}{Pp:fE}{v:Value}(c:VR G.tt E Pp v (fa q (q.bT.map gL))):VR G.tt E Pp v (fa q (ij dz d kd 0 q.bT)):=by
 have i:∀j,dz.fc d kd j= .nil:=by
  intro j;have g:(cn d).any (eP kd)=false:=g;have:(cn d).find? (eP kd)=none:=by rw[eN];intro x l;rw[PE]at g;exact g x l
  simp[dz,this]
 unfold wG at h;split at h
 ·rename_i ha b;rw[b]at c ⊢;show VR _ _ _ _ (fa q [sY dz _ (dz.fc d kd 0)]);rw[i];exact c
 ·rename_i ha b;rw[b]at c ⊢;show VR _ _ _ _ (fa q [sY dz _ (dz.fc d kd 0)]);rw[i];exact c
 ·rename_i ha b;rw[b]at c ⊢;show VR _ _ _ _ (fa q [sY dz _ (dz.fc d kd 0)]);rw[i];simp only[fa,ha,List.map,cond_false]at c ⊢;cases c;exact .bool _
 ·rename_i ha b;rw[b]at c ⊢;show VR _ _ _ _ (fa q [sY dz _ (dz.fc d kd 0)]);rw[i];simp only[fa,ha,List.map,cond_false]at c ⊢;rename_i p s;cases c;exact .dmp p _ _ _ (.BT _ _)
 ·cases h
def DK(v:ec P G.tt)(h:cL G.tt B E Pp st.o w)(hs:∀t,VR G.tt E Pp (a.tmps.getD t undef) (look st.s t)){tr:List TypeId}(u:o.op= .call { callee:=.builtin .delete,args:=z,argTypes:=ts })(has:z.toList=[m,k])(g:ts.toList=t::tr)
 (hc:yg dz G t m k st (K (.tup []))):o.wp P a w (dH G.tt B (G.dV,G.live) E Pp st.o w o a K) Q:=by
 unfold yg at hc;split at hc
 ·rename_i ti s;cases hb:isMap ti with
  |false=>rw[hb]at hc;exact hc.elim
  |true=>
   rw[hb]at hc;simp only[cond_true]at hc;split at hc
   ·rename_i A l;split at hc
    ·rename_i kc i;cases c:jM kc (fK G.tt st.s (ti.ar-1) k)with
     |false=>rw[c]at hc;exact hc.elim
     |true=>
      rw[c]at hc;simp only[cond_true]at hc;split at hc
      ·rename_i r y;split at hc
       ·rename_i j e d p;cases b:decide (kc=j)with
        |false=>rw[b]at hc;exact hc.elim
        |true=>rw[b]at hc;simp only[decide_eq_true_eq]at b;subst b;exact I5 v h hs u has g s hb l i c y p hc
       ·exact hc.elim
      ·exact hc.elim
    ·exact hc.elim
   ·exact hc.elim
 ·exact hc.elim
def J2(h:cL G.tt B E Pp st.o w)(hs:∀t,VR G.tt E Pp (a.tmps.getD t undef) (look st.s t)){f:Operand}(p:o.op= .call { callee:=.value f,args:=z,argTypes:=ts })(L:∀g,f≠ .func g){i:Nat}(hi:ev st.s f= .j9 i)
 (b:eu G.live=false) (hc:CI (jT P G.tt) i (mP G st.s z.toList ts.toList) st K):o.wpIn (kS r0) 0 P a w (dH G.tt B (G.dV,G.live) E Pp st.o w o a K) Q:=by
 unfold CI at hc;split at hc
 ·rename_i n ps c1 c2 s N;simp only[CI.Lg]at hc;have hv:=ml (G:=G) hs z.toList ts.toList;generalize X:reach st.o 64 (i::eV (ot 8) (mP G st.s z.toList ts.toList)) []=F at hc;have M:F[0]? =some i:=by rw[<- X];exact FH 63 _ _
  unfold qz at hc;cases hb:(jz F&&gE (λr=>gZ r (ch st.o)) F)with
  |false=>rw[hb]at hc;exact hc.elim
  |true=>
   rw[hb]at hc;simp only[bw,cI]at hb;have hl:=BW (K:=K) h hs hv (oy hb.1) (MC hb.2);have u:=eG hs f;rw[hi]at u;generalize J:a.eval f=vf at u;cases u with
   |j9 _ l S=>
    obtain⟨ri,I,O⟩:=h.wr.ob i _ (cT N rfl) rfl;rw[S]at I;cases I;obtain⟨rec,j,T,_⟩:=O;obtain⟨A,d⟩:=hc _ _ w _ l rec hl.1 (qt M S) j hl.2.1;refine⟨λ_ _=>trivial,?_⟩;have D:o.semAt r0 a.eval=execOp a.eval o:=Oper.semAt_eq _ _ _ (λc=>by rw[p];intro h;cases h);have H:z.map a.eval=⟨z.toList.map a.eval⟩:=by apply fL;simp
    have C:(execOp a.eval o).run P w= .ok (.round l rec.fn ((rec.params.zip (⟨z.toList.map a.eval⟩:Array Value)).foldl (λtmps (t,a)=>tmps.setIfInBounds t a) rec.tmps) rec.assign rec.body) w:=by have Z:=run_yield (P:=P) j (args:=⟨z.toList.map a.eval⟩) (yU A);simp[execOp,p,resolve,invoke,J,Deferred.ofValue,H];simpa using Z
    show o.uponIn (kS r0) 0 P a _ Q ((o.semAt r0 a.eval).run P w);rw[D,C];refine⟨λh=>by simp[kS,Fence.wide]at h,(Dr d).mono ?_⟩;intro e w' y;obtain⟨v,pv,s',o',E',Pp',rfl,q2,V,Y,W,U,_⟩:=hl.2.2 e w' y;refine dH.mk q2 V Y W (λy=>?_) U;exfalso;rw[p]at y;cases f<;>first|exact absurd rfl (L _)|(simp only[fM]at y;rw[y]at b;cases b)
 ·exact hc.elim
def ED(s:ec P G.tt)(hB:B.E0.length=G.n0)(h:cL G.tt B E Pp st.o w)(hs:∀t,VR G.tt E Pp (a.tmps.getD t undef) (look st.s t)){y:Operand}{C A:TypeId}
 (i:o.op= .call { callee:=.builtin .append,args:=z,argTypes:=ts }) (has:z.toList=[x,y]) (u:ts.toList=[C,A])
 {M S:TI} (h1:G.tt C=some M) (h2:G.tt A=some S) (p:dZ M=some e) (l:P.underlying A=some (.slice e)\/P.underlying A=some .string) (v:G.tt e=some q) (j:q.bytes<=1024)
 {rows:List (List D)}{news:List Value} (N:Reads G.tt Pp w e (a.eval y) rows news) (hc:Bc dz G e (Rp G.tt st.s C x) (.list rows) st o K):
 o.wp P a w (dH G.tt B (G.dV,G.live) E Pp st.o w o a K) Q:=by
 have g:=Gk hs C x;unfold Bc at hc;split at hc
 ·rename_i J r I;rw[I]at g;split at hc
  ·rename_i O d wr F;cases b:(nb e J&&nb e O&&ir G.n0 r)with
   |false=>rw[b]at hc;exact hc.elim
   |true=>rw[b]at hc;simp only[bw]at b;have H:=cR b.1.1;have U:=cR b.1.2;have V:=dK b.2;subst H U;obtain⟨c,hc⟩:=hc;exact zO s h hs i has u h1 h2 p l v j N g F yO (by have:=c.2;simpa[dz,cn]using this) hc
  ·exact hc.elim
 ·rename_i J d I;rw[I]at g;cases b:nb e J with
  |false=>rw[b]at hc;exact hc.elim
  |true=>
   rw[b]at hc;have H:=cR b;subst H;simp only[cond_true]at hc;obtain⟨c,hc⟩:=hc;refine zP s h hs i has u h1 h2 p l v j N g (by have:=c.2;simpa[dz,cn]using this) ?_;cases L:uY o.dst G.own with
   |true=>rw[L]at hc;obtain⟨T,hc⟩:=hc;refine .inl ⟨?_,hc⟩;have:=T.2;simpa[dz,cn]using this
   |false=>rw[L]at hc;exact .inr hc
 ·exact hc.elim
def Kl(s:ec P G.tt)(hB:B.E0.length=G.n0)(h:cL G.tt B E Pp st.o w)(hs:∀t,VR G.tt E Pp (a.tmps.getD t undef) (look st.s t))(hc:dY dz G (jT P G.tt) o st K)(hy:∀f z ts i,o.op= .call { callee:=.value f,args:=z,argTypes:=ts }->(∀g,f≠ .func g)->ev st.s f≠ .j9 i):
 o.wp P a w (dH G.tt B (G.dV,G.live) E Pp st.o w o a K) Q:=by
 unfold dY at hc;split at hc
 ·
  rename_i t j;split at hc
  ·rename_i ti A;split at hc
   ·rename_i e ho he;exact Ck s h hs j A he hc
   ·cases hb:zN ti (wq (ch st.o) ti.bT)with
    |false=>rw[hb]at hc;exact hc.elim
    |true=>rw[hb]at hc;exact zQ s h hs j A (by rw[cI]at hb;exact wS A hb) hc
   ·cases hb:zN ti (ti.bT.map gL)with
    |false=>rw[hb]at hc;exact hc.elim
    |true=>rw[hb]at hc;exact MB s h hs j A (wS A hb) hc
  ·exact hc.elim
 ·
  rename_i t x j;split at hc
  ·rename_i ti A;cases hb:(nb (ch (flat (fK G.tt st.s t x))) (ch ti.bT)&&gZ 0 (ch ti.bT)&&zN ti (flat (fK G.tt st.s t x)))with
   |false=>rw[hb]at hc;exact hc.elim
   |true=>rw[hb]at hc;simp only[bw,cI]at hb;have h1:=cR hb.1.1;have h2:0+1<=ti.bT.length:=dK hb.1.2;exact RH h hs j (by intro h0;rw[h0]at h1;simp at h1;omega) (wS A hb.2) hc
  ·exact hc.elim
 ·
  rename_i t x y j;split at hc
  ·exact hc.elim
  rename_i ti A;cases hb:(nb (ch (flat (fK G.tt st.s t y))) (ch ti.bT)&&gE hX (flat (fK G.tt st.s t y))&&gZ 0 (ch ti.bT))with
  |false=>rw[hb]at hc;exact hc.elim
  |true=>
   rw[hb]at hc;simp only[bw,cI]at hb;have h1:=cR hb.1.1;have h2:0+1<=ti.bT.length:=dK hb.2;simp only[cond_true]at hc;split at hc
   ·rename_i b off J;split at hc
    ·rename_i cs H;simp only[cI]at hc;cases D:(ir off dB&&ir (off+ti.bT.length) cs.length&&OZ (nK cs off (flat (fK G.tt st.s t y))) cs)with
     |false=>rw[D]at hc;exact hc.elim
     |true=>rw[D]at hc;rw[bw,bw]at D;exact BE s h hs j A h1 yO hb.1.2 J H D.1.1 (dK D.1.2) D.2 hc
    ·exact hc.elim
   ·rename_i e r i off J;split at hc
    ·rename_i e' d H hm;cases D:(nb e e'&&hY G.tt e off ti.bT&&iG ti.bT (cS (ng st.o 8) (flat (fK G.tt st.s t y)))&&eu (eV (ids st.o 8) (flat (fK G.tt st.s t y))))with
     |false=>rw[D]at hc;exact hc.elim
     |true=>rw[D]at hc;simp only[bw]at D;have he:=cR D.1.1.1;subst he;exact BD s h hs j A h1 yO hb.1.2 J hm H D.1.1.2 D.1.2 D.2 hc
    ·exact hc.elim
   ·exact hc.elim
 ·
  rename_i t len ps j;split at hc
  ·exact hc.elim
  rename_i ti A;split at hc
  ·exact hc.elim
  rename_i e he;split at hc
  ·exact hc.elim
  rename_i q C;cases hb:(ir len 1000&&ir q.bT.length 1000&&gZ 0 (ch q.bT))with
  |false=>rw[hb]at hc;exact hc.elim
  |true=>
   rw[hb]at hc;simp only[bw,cI]at hb;have h1:=dK hb.1.1;have h2:=dK hb.1.2;have h3:0+1<=q.bT.length:=dK hb.2;simp only[cond_true]at hc;split at hc
   ·rename_i aw;split at hc
    ·exact hc.elim
    rename_i l hl;split at hc
    ·cases hb:zN q l with
     |false=>rw[hb]at hc;exact hc.elim
     |true=>rw[hb]at hc;exact Ci s h hs j A he C h1 (by rw[aw];rfl) hl (wS C hb) hc
    ·exact Eu s h hs j A he C h1 (by rw[aw];rfl) hl rfl hc
   split at hc
   ·exact hc.elim
   rename_i rows ao;refine zL s h hs j A he C h1 h2 yO ao rfl ?_;cases ho:uY o.dst G.own with
   |true=>
    rw[ho]at hc;simp only[cond_true]at hc;cases X:eu (eV (ids st.o 8) (eV (λp=>flat (fK G.tt st.s e p.2)) ps.toList))with
    |false=>rw[X]at hc;exact hc.elim
    |true=>rw[X]at hc;exact .inl ⟨rfl,.inl hc⟩
   |false=>
    rw[ho]at hc;simp only[cond_false]at hc;cases X:eu (eV (ids st.o 8) (eV (λp=>flat (fK G.tt st.s e p.2)) ps.toList))with
    |false=>rw[X]at hc;exact .inr hc
    |true=>rw[X]at hc;exact .inl ⟨rfl,.inr hc⟩
 ·
  rename_i z ts j;split at hc
  ·rename_i x y t1 t2 has V;split at hc
   ·rename_i i1 i2 h1 h2;split at hc
    ·rename_i e au;split at hc
     ·rename_i e2 aM;cases hb:nb e e2 with
      |false=>rw[hb]at hc;exact hc.elim
      |true=>
       rw[hb]at hc;have:=cR hb;subst this;simp only[cond_true]at hc;split at hc
       ·exact hc.elim
       rename_i q C;cases D:(ir q.bytes 1024&&gZ 0 (ch q.bT))with
       |false=>rw[D]at hc;exact hc.elim
       |true=>
        rw[D]at hc;simp only[bw]at D;have aG:=dK D.1;simp only[cond_true]at hc;obtain⟨e3,rows,news,hc,hR⟩:=Reads.QY h.wr (iE hs t2 y) hc;cases F:nb e e3 with
        |false=>rw[F]at hc;exact hc.elim
        |true=>rw[F]at hc;have:=cR F;subst this;simp only[cond_true]at hc;exact ED s hB h hs j has V h1 h2 au (.inl ((s _ _ h2).slice aM).1) C aG hR hc
     ·split at hc
      ·rename_i q u C hu;cases hb:(isStr i2&&Q9 q&&ir q.bytes 1024)with
       |false=>rw[hb]at hc;exact hc.elim
       |true=>
        rw[hb]at hc;simp only[bw]at hb;simp only[cond_true]at hc;have N:=iE hs t2 y;rw[hu]at N
        have aB:bR G.tt e=[.int .u8]:=by
         have h8:=hb.1.2;unfold Q9 pk at h8;unfold bR;rw[C];simp only;split at h8
         ·rename_i h9;split at h9
          ·rename_i hk;cases h9;exact hk
          ·cases h9
         ·cases h8
        generalize hy:a.eval y=vy at N;cases N with
        |str b=>exact ED s hB h hs j has V h1 h2 au (.inr ((s _ _ h2).str hb.1.1)) C (dK hb.2) (by rw[hy];exact Reads.QX aB b) hc
      ·exact hc.elim
    ·exact hc.elim
   ·exact hc.elim
  ·exact hc.elim
 ·
  rename_i x j;cases hb:(uY o.dst G.own&&lI x)with
  |false=>rw[hb]at hc;exact mg s h hs (yU hc)
  |true=>
   rw[hb]at hc;simp only[bw]at hb;simp only[cond_true]at hc;split at hc
   ·exact FQ h hs j hb.2 hc
   ·exact hc.elim
 ·
  rename_i t j;split at hc
  ·rename_i e r ax hl;split at hc
   ·rename_i e' d wr H;cases hb:nb e e' with
    |false=>rw[hb]at hc;exact hc.elim
    |true=>rw[hb]at hc;exact Rv h hs j hl hc
   ·exact hc.elim
  ·exact mg s h hs hc
 ·
  rename_i t ps j;cases hb:uY o.dst G.own with
  |false=>rw[hb]at hc;exact mg s h hs (yU hc)
  |true=>
   rw[hb]at hc;simp only at hc;split at hc
   ·rename_i ti A;cases ai:(ti.agg&&nb ti.ar 0)with
    |false=>rw[ai]at hc;exact hc.elim
    |true=>
     rw[ai]at hc;simp only at hc;split at hc
     ·rename_i cs aH;exact Dx s h hs j A ai aH hc
     ·exact hc.elim
   ·exact hc.elim
 ·
  rename_i t tx lo X mx j;split at hc
  ·rename_i e r hl;split at hc
   ·rename_i ax;split at hc
    ·rename_i y0;split at hc
     ·rename_i ti q e' d wr A C H;split at hc
      ·rename_i e0 W;cases hb:(nb e0 e&&nb e e'&&ir G.n0 r)with
       |false=>rw[hb]at hc;exact hc.elim
       |true=>rw[hb]at hc;simp only[cond_true]at hc;simp only[bw]at hb;obtain⟨⟨Y,D⟩,F⟩:=hb;obtain rfl:=cR Y;obtain rfl:=cR D;obtain⟨l,⟨M,hc⟩,L⟩:=iJ hs hc;refine Dp s h hs j A W C (cT H rfl) (by have:=hs tx;rw[hl]at this;exact this) (by rw[hB];exact dK F) M.1 M.2 L hc
      ·exact hc.elim
     ·exact hc.elim
    ·rename_i y0;split at hc
     ·rename_i ti q e' d aP A C H;split at hc
      ·rename_i e0 W;cases hb:(nb e0 e&&nb e e'&&ir G.n0 r)with
       |false=>rw[hb]at hc;exact hc.elim
       |true=>
        rw[hb]at hc;simp only[cond_true]at hc;simp only[bw]at hb;obtain⟨⟨Y,D⟩,F⟩:=hb;obtain rfl:=cR Y;obtain rfl:=cR D;obtain⟨l,⟨af,M,hc⟩,L⟩:=iJ hs hc;obtain⟨L,_⟩|⟨y1,k1,ag,aq⟩:=L
        ·cases L
        ·cases ag;exact Dq s h hs j A W C (cT H rfl) (by have:=hs tx;rw[hl]at this;exact this) (by rw[hB];exact dK F) af.2 M.1 M.2 aq aP hc
      ·exact hc.elim
     ·exact hc.elim
    ·exact hc.elim
   split at hc
   ·split at hc
    ·rename_i y0;split at hc
     ·rename_i ti q e' d wr A C H;split at hc
      ·rename_i e0 W;cases hb:(nb e0 e&&nb e e')with
       |false=>rw[hb]at hc;exact hc.elim
       |true=>
        rw[hb]at hc;simp only[cond_true]at hc;simp only[bw]at hb;obtain⟨Y,D⟩:=hb;obtain rfl:=cR Y;obtain rfl:=cR D;obtain⟨l,⟨af,M,hc⟩,L⟩:=iJ hs hc;obtain⟨L,_⟩|⟨y1,k1,ag,aq⟩:=L
        ·cases L
        ·cases ag;exact FA s h hs j A W C (cT H rfl) (by have:=hs tx;rw[hl]at this;exact this) af.2 M.1 M.2 aq hc
      ·exact hc.elim
     ·exact hc.elim
    ·exact hc.elim
   have h1:=h.mN [r];have aJ:∀t,VR G.tt E (gK G.tt E st.o w Pp [r]) (a.tmps.getD t undef) (look st.s t):=λt=>(hs t).mono (λ_ _ h=>h) (λ_ _ h=>.inl h);have ak:=mg (st:=⟨st.s,fw [r] 0 st.o⟩) (K:=K) (Q:=Q) s h1 aJ (o:=o) hc;refine Oper.wp_mono ?_ ak;rintro a' w' ⟨al,E',Pp',v,pv,e1,e2,e3,e4,e5,e6,e7⟩;exact⟨al,E',Pp',v,pv,e1,e2,e3,e4,e5,λI ad v N=>e6 I ad v (N.mN [r]),λad v N=>e7 ad v (.inl N)⟩
  ·exact mg s h hs hc
 ·
  rename_i t x y j;split at hc
  ·rename_i ti A;split at hc
   ·rename_i e he;split at hc
    ·rename_i q C;split at hc
     ·rename_i k l k' c J hy;cases hb:(ir q.bytes 1024&&gZ 0 (ch q.bT))with
      |false=>rw[hb]at hc;exact hc.elim
      |true=>rw[hb]at hc;simp only[bw,cI]at hb;have h3:0+1<=q.bT.length:=dK hb.2;obtain⟨q1,q2,hc⟩:=hc;exact BV s h hs j A he C (dK hb.1) yO J hy q1 q2 hc
     ·exact hc.elim
    ·exact hc.elim
   ·exact hc.elim
  ·exact hc.elim
 ·
  rename_i t j;split at hc
  ·rename_i ti A;cases hb:isMap ti with
   |false=>rw[hb]at hc;exact hc.elim
   |true=>
    rw[hb]at hc;simp only[cond_true]at hc;split at hc
    ·split at hc
     ·split at hc
      ·exact DM h hs j hc
      ·exact FZ h hs j rfl hc
     ·exact hc.elim
    ·exact hc.elim
  ·exact hc.elim
 ·
  rename_i t m k ok j;split at hc
  ·rename_i ti A;cases hb:isMap ti with
   |false=>rw[hb]at hc;exact hc.elim
   |true=>
    rw[hb]at hc;simp only[cond_true]at hc;split at hc
    ·rename_i ki q T C;split at hc
     ·rename_i kc U;cases D:jM kc (fK G.tt st.s (ti.ar-1) k)with
      |false=>rw[D]at hc;exact hc.elim
      |true=>
       rw[D]at hc;simp only[cond_true]at hc;split at hc
       ·rename_i r J;split at hc
        ·rename_i cs H;split at hc
         ·rename_i kk k' n hn;cases F:Gb kk k' with
          |false=>rw[F]at hc;exact hc.elim
          |true=>
           rw[F]at hc;have q1:=yv F;subst q1;simp only[cond_true]at hc;split at hc
           ·rename_i p hg;exact ym s h hs j A hb T C U hn J H hg hc
           ·rename_i hg;refine ym s h hs j A hb T C U hn J H hg ?_;cases hf:yx q with
            |false=>rw[hf]at hc;exact hc.elim
            |true=>rw[hf]at hc;exact⟨rfl,hc⟩
           ·exact hc.elim
         ·exact hc.elim
        ·rename_i aL e d H;cases F:(decide (kc=aL)&&nb e ti.el&&gZ 0 (ch q.bT))with
         |false=>rw[F]at hc;exact hc.elim
         |true=>
          rw[F]at hc;simp only[bw,decide_eq_true_eq]at F;obtain⟨⟨q1,q2⟩,q3⟩:=F;have q2:=cR q2;subst q1 q2;simp only[cond_true]at hc;split at hc
          ·rename_i an;simp only[AL]at hc;exact AK (p0:=fa q (ij dz d (lG (fK G.tt st.s (ti.ar-1) k)) 0 q.bT)) s h hs j A hb T C U D J H (λ_=>hc) (λaj {_ _ _} N=>xT an aj N) (λ_=>hc)
          ·exact AK s h hs j A hb T C U D J H hc.1 (λ_ {_ _ _} h=>h) hc.2
        ·exact hc.elim
       ·rename_i e d J;cases F:(decide (kc=CK.str)&&nb e ti.el&&gZ 0 (ch q.bT))with
        |false=>rw[F]at hc;exact hc.elim
        |true=>
         rw[F]at hc;simp only[bw,decide_eq_true_eq]at F;obtain⟨⟨q1,q2⟩,q3⟩:=F;have q2:=cR q2;subst q2;simp only[cond_true]at hc;split at hc
         ·rename_i an;simp only[AL]at hc;exact yn (p0:=fa q (ij dz d (lG (fK G.tt st.s (ti.ar-1) k)) 0 q.bT)) s h hs j A hb T C U D J q1 (λ_=>hc) (λaj {_ _ _} N=>xT an aj N) (λ_=>hc)
         ·exact yn s h hs j A hb T C U D J q1 hc.1 (λ_ {_ _ _} h=>h) hc.2
       ·exact hc.elim
     ·exact hc.elim
    ·exact hc.elim
  ·exact hc.elim
 ·rename_i t m k x j;exact vW s h hs (.inl j) hc
 ·rename_i t m k x j;exact vW s h hs (.inr j) hc
 ·
  rename_i z ts j;split at hc
  ·rename_i m k t tr has V;exact DK s h hs j has V hc
  ·exact hc.elim
 ·
  rename_i z ts j;split at hc
  ·rename_i x t tr has V;split at hc
   ·rename_i ti e r i off A J;split at hc
    ·rename_i e0 q e' d he C H;cases hb:(nb e0 e&&nb e e'&&nb off dB&&gZ 0 (ch q.bT))with
     |false=>rw[hb]at hc;exact hc.elim
     |true=>rw[hb]at hc;simp only[bw]at hb;obtain⟨⟨⟨b1,b2⟩,b3⟩,b4⟩:=hb;have b1:=cR b1;have b2:=cR b2;have b3:=cR b3;have b4:=dK b4;rw[cI]at b4;subst b1;subst b2;subst b3;exact Md s h hs j has V A he C yO J H hc
    ·exact hc.elim
   ·exact hc.elim
  ·exact hc.elim
 ·
  rename_i t m j;split at hc
  ·rename_i ti A;cases hb:isMap ti with
   |false=>rw[hb]at hc;exact hc.elim
   |true=>
    rw[hb]at hc;simp only[cond_true]at hc;split at hc
    ·rename_i r J;split at hc
     ·rename_i kc e d H;exact KM s h hs j A hb J H hc
     ·exact hc.elim
    ·rename_i e d J;cases F:nb e ti.el with
     |false=>rw[F]at hc;exact hc.elim
     |true=>rw[F]at hc;exact IP s h hs j A hb J hc
    ·exact hc.elim
  ·exact hc.elim
 ·
  rename_i it str j;cases str with
  |true=>exact hc.elim
  |false=>
   simp only[cond_false]at hc;split at hc
   ·rename_i i J;split at hc
    ·rename_i m seen O;split at hc
     ·rename_i kc e d ah;split at hc
      ·rename_i q C;cases hb:gZ 0 (ch q.bT)with
       |false=>rw[hb]at hc;exact hc.elim
       |true=>rw[hb]at hc;exact Of s h hs j J O ah C hc.1 hc.2
      ·exact hc.elim
     ·exact hc.elim
    ·rename_i e d seen O;split at hc
     ·rename_i q C;cases hb:gZ 0 (ch q.bT)with
      |false=>rw[hb]at hc;exact hc.elim
      |true=>rw[hb]at hc;exact K4 s h hs j J O C hc.1 hc.2
     ·exact hc.elim
    ·exact hc.elim
   ·exact hc.elim
 ·
  rename_i it j;split at hc
  ·rename_i i J;split at hc
   ·rename_i m seen O;split at hc
    ·rename_i kc e d ah;split at hc
     ·rename_i q C;cases hb:gZ 0 (ch q.bT)with
      |false=>rw[hb]at hc;exact hc.elim
      |true=>rw[hb]at hc;exact L0 s h hs j J O ah C hc.1 hc.2.1 hc.2.2
     ·exact hc.elim
    ·exact hc.elim
   ·rename_i e d seen O;split at hc
    ·rename_i q C;cases hb:gZ 0 (ch q.bT)with
     |false=>rw[hb]at hc;exact hc.elim
     |true=>rw[hb]at hc;exact Jk s h hs j J O C hc.1 hc.2.1 hc.2.2
    ·exact hc.elim
   ·exact hc.elim
  ·exact hc.elim
 ·
  rename_i f z ts j
  have ab:(execOp a.eval o).run P w=(callFunc f ⟨z.toList.map a.eval⟩).run P w:=by
   have:z.map a.eval=⟨z.toList.map a.eval⟩:=by apply fL;simp
   simp[execOp,j,resolve,invoke,Act.eval,this,Deferred.ofValue]
  split at hc
  ·rename_i Z;simp only[bw]at Z;rw[cI,eX]at hc;obtain⟨E',h1,h2,h3⟩:=pf (a:=a) (st:=st) z.toList ts.toList h hs
   have ak:=rM (st:=⟨st.s,st.o++nO G z.toList ts.toList⟩) (f:=f) (kp:=true) (Q:=Q) s h1 (λt=>(hs t).mono h2 (λ_ _ h=>h)) h3 ab hc (λI=>by
    rw[j]at I;simp only[fM]at I;cases hm:eI f G.dV with
    |true=>rw[hm]at I;simp at I
    |false=>rw[hm]at Z;cases Z.2)
   refine Oper.wp_mono ?_ ak;rintro a' w' ⟨al,E2,Pp',v,pv,e1,e2,e3,e4,e5,e6,e7⟩;refine⟨al,E2,Pp',v,pv,e1,e2,e3,e4,e5,λI=>?_,e7⟩;rw[j]at I;simp only[fM,Z.2,cond_true]at I;cases I
  have N:=Gl (G:=G) hs f z.toList ts.toList
  refine rM (f:=f) (kp:=true) s h hs N ab hc (λI=>by
   rw[j]at I;simp only[fM]at I;cases hm:eI f G.dV with
   |true=>rw[hm]at I;simp at I
   |false=>
    rw[hm]at I;cases aF:eI f G.live with
    |true=>rw[aF]at I;simp at I
    |false=>exact⟨rfl,rfl⟩)
 ·
  rename_i f z ts _ j;split at hc
  ·rename_i g ma hf;have ap:=eG hs f;rw[hf]at ap;generalize ay:a.eval f=vf at ap;cases ap with
   |cy _ _ vs _ hu mZ=>
    have S:fM (G.dV,G.live) o.op=true->eI g G.live=false/\eI (g-kz) G.live=false:=by
     intro I;rw[j]at I;cases f with
     |func g'=>rename_i aE;exact absurd rfl (aE g')
     |_=>simp only[fM]at I;have:=j6 I;simp[this,eI]
    split at hc
    ·rename_i ar;have hu:=hu.get ar;subst hu;have N:=(ml (G:=G) hs z.toList ts.toList).append mZ;rw[eX]at hc;refine rM (f:=g) (kp:=false) s h hs N ?_ hc (λI=>⟨rfl,(S I).1⟩);have:z.map a.eval++⟨vs⟩=⟨z.toList.map a.eval++vs⟩:=by apply fL;simp
     simp[execOp,j,resolve,invoke,ay,this,Deferred.ofValue]
    ·rename_i ar;have hu:=hu.WQ ar;subst hu;have N:=mZ.append (ml (G:=G) hs z.toList ts.toList);rw[eX]at hc;refine rM (f:=g-kz) (kp:=false) s h hs N ?_ hc (λI=>⟨rfl,(S I).2⟩);have:(⟨vs⟩:Array Value)++z.map a.eval=⟨vs++z.toList.map a.eval⟩:=by apply fL;simp
     simp[execOp,j,resolve,invoke,ay,this,Deferred.ofValue]
  ·rename_i i X;refine absurd X (hy f z ts i j ?_);intro g e;subst e;simp only[ev]at X;cases hb:gZ g kz<;>rw[hb]at X<;>cases X
  ·exact hc.elim
 ·exact mg s h hs hc
def zB(hc:dY dz G (jT P G.tt) o st K):∀c,o.op≠ .defer c:=by intro c h;unfold dY at hc;rw[h]at hc;simp[cF]at hc
def tw(j:ec P G.tt)(hB:B.E0.length=G.n0)(h:cL G.tt B E Pp st.o w)(hs:∀t,VR G.tt E Pp (a.tmps.getD t undef) (look st.s t))(hc:dY dz G (jT P G.tt) o st K):
 o.wpIn (kS r0) 0 P a w (dH G.tt B (G.dV,G.live) E Pp st.o w o a K) Q:=by
 by_cases l:∃f z ts i,o.op= .call { callee:=.value f,args:=z,argTypes:=ts }/\(∀g,f≠ .func g)/\ev st.s f= .j9 i
 ·obtain⟨f,z,ts,i,c,d,p⟩:=l
  have b:eu G.live=false/\CI (jT P G.tt) i (mP G st.s z.toList ts.toList) st K:=by
   unfold dY at hc;rw[c]at hc;cases f with
   |func g=>exact absurd rfl (d g)
   |_=>
    simp only[p]at hc;cases hl:eu G.live with
    |true=>rw[hl]at hc;exact hc.elim
    |false=>rw[hl]at hc;exact⟨rfl,hc⟩
  exact J2 h hs c d p b.1 b.2
 ·exact SU (zB hc) (Kl j hB h hs hc λf z ts i h1 h2 h3=>l ⟨f,z,ts,i,h1,h2,h3⟩)
end
end
section
variable [Inhabited pB]
open Go
section
variable {r:Option Nat}{P:Program}{ops:Array Oper}{D:Nat->Bool}{Q:Exit->Act->World->Prop}
variable {J:World->Prop}{w:World}{oi oj:Oper}{a:Act}{j:Nat}{K:Act->World->Prop}{v:Value}
def iz(r:Option Nat)(P:Program)(ops:Array Oper)(D:Nat->Bool)(Q:Exit->Act->World->Prop)(J:World->Prop):Nat->Array Bool->Act->World->Prop
 |0,listed,a,w=>J w/\Region.ready .any ops listed=[]/\Q .normal a w
 |n+1,listed,a,w=>J w/\(Region.ready .any ops listed=[]->Q .normal a w)/\∀i∈Region.ready .any ops listed,wpOpIn (kS r) 0 P ops Q i (λb w'=>if D i then wpAnyIn (kS r) 0 P .any ops Q n (listed.setIfInBounds i true) b w' else iz r P ops D Q J n (listed.setIfInBounds i true) b w') a w
def iz.holds{n:Nat}{listed:Array Bool}(h:iz r P ops D Q J n listed a w):J w:=by cases n<;>exact h.1
def iz.any:∀{n:Nat}{listed:Array Bool}{a:Act}{w:World},iz r P ops D Q J n listed a w->wpAnyIn (kS r) 0 P .any ops Q n listed a w
 |0,_,_,_,h=>h.2
 |n+1,listed,a,w,h=>⟨h.2.1,λi d=>wpOpIn_mono (λe w' b=>by
  cases c:D i with
  |true=>rw[c]at b;exact b
  |false=>rw[c]at b;exact iz.any b) (h.2.2 i d)⟩
def iz.mono{d:World->Prop}(c:∀w,J w->d w):∀{n:Nat}{listed:Array Bool}{a:Act}{w:World},iz r P ops D Q J n listed a w->iz r P ops D Q d n listed a w
 |0,_,_,_,h=>⟨c _ h.1,h.2⟩
 |n+1,listed,a,w,h=>⟨c _ h.1,h.2.1,λi f=>wpOpIn_mono (λg w' b=>by
  cases e:D i with
  |true=>rw[e]at b;exact b
  |false=>rw[e]at b;exact iz.mono c b) (h.2.2 i f)⟩
def uu(P:Program)(ops:Array Oper)(J:World->Prop)(o:Oper)(v:Value)(a:Act):Prop:=(Region.wanted o (yielded ops a.tmps)=true/\∀w,J w->(execOp a.eval o).run P w= .ok (.value v) w)\/(Region.wanted o (yielded ops a.tmps)=false/\v=undef)
def OB{b:Act}(p:ops[j]? =some oj)(fR:∀c,oj.op≠ .defer c)(m:∀d,oj.dst=some d->d∉oi.looksAt ops)(g:∀cs b,oi.op≠ .select cs b)(h:wpOpIn (kS r) 0 P ops Q j K b w):
 wpOpIn (kS r) 0 P ops Q j (λb' w'=>K b' w'/\execOp b'.eval oi=execOp b.eval oi/\Region.wanted oi (yielded ops b'.tmps)=Region.wanted oi (yielded ops b.tmps)) b w:=by
 have key:∀u,execOp (b.put oj.dst u).eval oi=execOp b.eval oi/\Region.wanted oi (yielded ops (b.put oj.dst u).tmps)=Region.wanted oi (yielded ops b.tmps):=λu=>⟨execOp_put oi g b oj.dst u m,wanted_put oi b oj.dst u m⟩;have i:∀(ds:List Deferred) u,execOp (({ b with defers:=ds }:Act).put oj.dst u).eval oi=execOp b.eval oi/\Region.wanted oi (yielded ops (({ b with defers:=ds }:Act).put oj.dst u).tmps)=Region.wanted oi (yielded ops b.tmps):=λds u=>⟨execOp_put oi g { b with defers:=ds } oj.dst u m,wanted_put oi { b with defers:=ds } oj.dst u m⟩;unfold wpOpIn at*;simp only[p]at*;split
 ·rename_i o;simp only[o,if_true]at h;refine⟨h.1,?_⟩;have h:=h.2;rw[Oper.semAt_eq _ _ _ fR]at h ⊢;generalize (execOp b.eval oj).run P w=res at*;cases res with
  |ok n w'=>
   cases n<;>simp only[Oper.uponIn]at h ⊢
   case value u=>exact⟨h,key u⟩
   case skip=>exact⟨h,key _⟩
   case defer d=>exact⟨h,i _ _⟩
   case enter f args=>
    refine⟨h.1,CallsIn.mono h.2 λe k he=>?_⟩;cases e with
    |returned u=>exact⟨he,key u⟩
    |panicked c=>exact he
    |outgrown=>exact he
   case row row args=>exact⟨h.1,RowsIn.mono h.2 λu k he=>⟨he,key u⟩⟩
   case round l f tmps assign body=>
    refine⟨h.1,RoundIn.mono h.2 λe k he=>?_⟩;cases e with
    |returned u=>exact⟨he,key u⟩
    |panicked c=>exact he
    |outgrown=>exact he
  |halt x w'=>cases x<;>simp only[Oper.uponIn]at h ⊢;exact h
 ·rename_i o;simp only[o]at h;exact⟨h.1,h.2,key _⟩
def QU(s:ops[j]? =some oj)(fR:∀c,oj.op≠ .defer c)(m:oi.apart ops oj=true)(p:∀cs b,oj.op≠ .select cs b)(o:∀c a w,¬Q (.panic c) a w)
 (h:wpOpIn (kS r) 0 P ops Q j K (a.put oi.dst v) w):wpOpIn (kS r) 0 P ops Q j (λt w'=>K (t.put oi.dst v) w') a w:=by
 obtain⟨h1,h2,_⟩:=Oper.apart_spec m;have g:∀(b:Act) u,(b.put oi.dst v).put oj.dst u=(b.put oj.dst u).put oi.dst v:=λb u=>Act.put_comm b v u h2;unfold wpOpIn at*;simp only[s]at*;rw[wanted_put oj a oi.dst v h1]at h;split
 ·rename_i k;simp only[k,if_true]at h;refine⟨λ_ _=>trivial,?_⟩;have h:=h.2;rw[Oper.semAt_eq _ _ _ fR,execOp_put oj p a oi.dst v h1]at h;rw[Oper.semAt_eq _ _ _ fR];generalize q:(execOp a.eval oj).run P w=res at*;cases res with
  |ok n w'=>
   cases n<;>simp only[Oper.uponIn]at h ⊢
   case value u=>rw[<- g];exact h
   case skip=>rw[<- g];exact h
   case defer d=>rw[<- g,<-Act.put_defers];exact h
   case enter f args=>
    refine⟨h.1,CallsIn.mono h.2 λe i he=>?_⟩;cases e with
    |returned u=>simp only at he ⊢;rw[g]at he;exact he
    |panicked c=>exact(o _ _ _ he).elim
    |outgrown=>exact he
   case row row args=>exact⟨h.1,RowsIn.mono h.2 λu i he=>by rw[g]at he;exact he⟩
   case round l f tmps assign body=>
    refine⟨h.1,RoundIn.mono h.2 λe i he=>?_⟩;cases e with
    |returned u=>simp only at he ⊢;rw[g]at he;exact he
    |panicked c=>exact(o _ _ _ he).elim
    |outgrown=>exact he
  |halt x w'=>
   cases x<;>simp only[Oper.uponIn]at h ⊢
   case panic u=>exact(o _ _ _ h).elim
 ·rename_i k;simp only[k]at h;refine⟨λ_ _=>trivial,?_⟩;rw[<- g];exact h.2
def Bm{i:Nat}(I:ops[i]? =some oi)(n:∀(j:Nat)(o:Oper) cs b,ops[j]? =some o->o.op≠ .select cs b)(fR:∀(j:Nat)(o:Oper) c,ops[j]? =some o->o.op≠ .defer c)(hQ:∀c a w,¬Q (.panic c) a w)(hD:D i=false)(g:∀d,oi.dst=some d->d∉oi.looksAt ops)(Z:List Nat)(U:∀z∈Z,∀oz,ops[z]? =some oz->∃e∈oz.after,Region.binds .any e=true/\(e.on=i\/e.on∈Z)):
 ∀(fuel:Nat)(listed:Array Bool)(a:Act)(w:World),
  (∀z∈Z,listed.getD z false=false)->(∀j oj,ops[j]? =some oj->j≠i->listed.getD j true=false->j∉Z->oi.apart ops oj=true/\D j=false)->
  i∈Region.ready .any ops listed->uu P ops J oi v a->J w->iz r P ops D Q J fuel (listed.setIfInBounds i true) (a.put oi.dst v) w->iz r P ops D Q J (fuel+1) listed a w:=by
 have f:∀(fuel:Nat)(listed:Array Bool)(a:Act)(w:World),uu P ops J oi v a->J w->iz r P ops D Q J fuel (listed.setIfInBounds i true) (a.put oi.dst v) w->
  wpOpIn (kS r) 0 P ops Q i (λt w'=>if D i then wpAnyIn (kS r) 0 P .any ops Q fuel (listed.setIfInBounds i true) t w' else iz r P ops D Q J fuel (listed.setIfInBounds i true) t w') a w:=by
  intro fuel listed a w B A H;unfold wpOpIn;simp only[I,hD];rcases B with⟨hw,hv⟩|⟨hw,rfl⟩
  ·simp only[hw,if_true];refine⟨λ_ _=>trivial,?_⟩;rw[Oper.semAt_eq _ _ _ (λc=>fR i oi c I),hv w A];exact H
  ·simp only[hw,cv,if_false];exact⟨λ_ _=>trivial,H⟩
 intro fuel;induction fuel with
 |zero=>
  intro listed a w _ _ hr B A H;refine⟨A,λh=>(by rw[h]at hr;cases hr),λj N=>?_⟩;by_cases l:j=i
  ·subst l;exact f 0 listed a w B A H
  ·have:=ready_mono N l;rw[H.2.1]at this;cases this
 |succ fuel ih=>
  intro listed a w F p hr B A H;refine⟨A,λh=>(by rw[h]at hr;cases hr),λj N=>?_⟩;by_cases l:j=i
  ·subst l;exact f _ listed a w B A H
  ·have h1:=H.2.2 j (ready_mono N l);obtain⟨u,oj,m,y⟩:=mem_ready.1 N
   have aa:listed.getD i false=false:=by
    have h0:=(mem_ready.1 hr).1;rcases bV i listed.size with T|T
    ·rw[bO]at h0 ⊢;simp[T]at h0 ⊢;exact h0
    ·rw[bO,cC T];rfl
   have x:j∉Z:=λhz=>by
    obtain⟨e,he,hb,h0|h0⟩:=U j hz oj m
    ·have h1:=y e he hb;rw[h0,aa]at h1;cases h1
    ·have h1:=y e he hb;rw[F _ h0]at h1;cases h1
   obtain⟨V,E⟩:=p j oj m l u x;simp only[E,cv,if_false]at h1;obtain⟨a1,a2,a3⟩:=Oper.apart_spec V;let q:Oper:={ oi with op:=.move (.const v),guard:=none }
   have M:q.apart ops oj=true:=by
    have hl:q.looksAt ops=[]:=rfl;unfold Oper.apart;simp only[hl];have Y:q.dst=oi.dst:=rfl;rw[Y];cases hd:oi.dst with
    |none=>cases oj.dst<;>rfl
    |some d=>
     have b1:=a1 d hd;have b2:=a2 d hd;cases X:oj.dst with
     |none=>simp[b1]
     |some d'=>rw[X]at b2;simp[b1];exactλh=>b2 (by rw[h])
   have h2:=OB (oi:=oi) (b:=a.put oi.dst v) m (λc=>fR j oj c m) a3 (λcs b=>n i oi cs b I) h1;have h3:=QU (oi:=q) m (λc=>fR j oj c m) M (λcs b=>n j oj cs b m) hQ h2;simp only[E,cv,if_false];refine wpOpIn_mono (λt w' h4=>?_) h3;obtain⟨h5,h6,h7⟩:=h4
   have s:∀k ok,ops[k]? =some ok->k≠i->(listed.setIfInBounds j true).getD k true=false->
    k∉Z->oi.apart ops ok=true/\D k=false:=λk ok hk R L O=>by
    refine p k ok hk R ?_ O;by_cases C:j=k
    ·subst C;exact u
    ·rw[getD_set_ne true C]at L;exact L
   have e0:q.dst=oi.dst:=rfl;rw[e0]at h5 h6 h7
   have S:uu P ops J oi v t:=by
    have e1:execOp t.eval oi=execOp a.eval oi:=by rw[<- execOp_put oi (λcs b=>n i oi cs b I) t oi.dst v g,h6,execOp_put oi (λcs b=>n i oi cs b I) a oi.dst v g]
    have e2:Region.wanted oi (yielded ops t.tmps)=Region.wanted oi (yielded ops a.tmps):=by rw[<- wanted_put oi t oi.dst v g,h7,wanted_put oi a oi.dst v g]
    unfold uu at*;rw[e1,e2];exact B
   rw[Array.setIfInBounds_comm _ _ (dy l)]at h5;have G:∀z∈Z,(listed.setIfInBounds j true).getD z false=false:=λz hz=>by have W:j≠z:=λe=>x (by rw[e];exact hz);rw[getD_set_ne false W];exact F z hz
   exact ih (listed.setIfInBounds j true) t w' G s (ready_mono hr (dy l)) S h5.holds h5
end
end
section
variable [Inhabited pB]
open Go
variable {w z:World}{tt:TypeId->Option TI}{N:Nat}{st D:St}{E E2:List RI}{Pp JC:fE}{d d2:List Deferred}{a a2:Act}
inductive Ex where
 |normal|exit (id:Nat)|ret
def pn:Exit->Ex->Prop
 | .normal,.normal=>True
 | .exit i,.exit j=>i=j
 | .ret,.ret=>True
 |_,_=>False
def tc(b:Nat):Deferred:={ target:=.collected b,args:= #[] }
def Mk(w:World)(d:List Deferred)(E':List RI)(objs':List Ob)(d':List Deferred)(w':World):Prop:=∃bs:List Nat,d'=bs.map tc++d/\bs.Nodup/\∀b∈bs,w.heap.size<=b/\b<w'.heap.size/\w'.heap[b]? =some (.deferred (some []))/\¬own E' objs' b
def Mk.none{w':World}{d':List Deferred}{E':List RI}{objs':List Ob}(h:d'=d):Mk w d E' objs' d' w':=⟨[],by simp[h],n2,λb hb=>yE hb⟩
def jc.at(B:jc)(d:List Deferred):jc:={ B with d0:=d }
def jc.here(B:jc)(E:List RI)(Pp:fE)(objs:List Ob)(d:List Deferred)(w:World):jc:={ w0:=w,E0:=B.E0,P0:=Pp,kI:=own E objs,d0:=d }
def fS.at{B:jc}(h:fS tt N B E Pp st a w):fS tt N (B.at a.defers) E Pp st a w:=⟨h.wr,h.fk,h.size,rfl,h.pre,h.rv,h.fr,h.jo,h.fresh⟩
def fS.here{B:jc}(h:fS tt N B E Pp st a w):fS tt N (B.here E Pp st.o a.defers w) E Pp st a w:=⟨h.wr,h.fk,h.size,rfl,h.pre,λ_ _ h=>h,Fr.refl _ _,λ_ _ h=>.inl h,λi o ri b h1 h2 h3 h4=>.inr ⟨i,o,ri,h1,h2,h3,h4⟩⟩
def fS.back{B:jc}(h:fS tt N B E Pp st a w)(k:fS tt N ((B.here E Pp st.o d w).at d2) E2 JC D a2 z):fS tt N (B.at a2.defers) E2 JC D a2 z:=by
 have c:∀b,own E st.o b->B.w0.heap.size<=b\/B.kI b:=λb ⟨i,o,ri,h1,h2,h3,h4⟩=>h.fresh i o ri b h1 h2 h3 h4;refine⟨k.wr,k.fk,k.size,rfl,k.pre,λad v e=>k.rv ad v (h.rv ad v e),?_,?_,?_⟩
 ·refine h.fr.trans k.fr (λx f g=>?_);have f:x<B.w0.heap.size:=f;rcases c x g with h1|h1
  ·omega
  ·exact h1
 ·intro ad v e;rcases k.jo ad v e with h1|h1|h1
  ·exact h.jo ad v h1
  ·exact .inr (.inl (bQ h.fr.size h1))
  ·exact .inr (c _ h1)
 ·intro i o ri b h1 h2 h3 h4;rcases k.fresh i o ri b h1 h2 h3 h4 with h5|h5
  ·exact .inl (bQ h.fr.size h5)
  ·exact c _ h5
def Mk.trans{B:jc}{w0:World}{d0:List Deferred}(fh:w0.heap.size<=w.heap.size)(m:Mk w0 d0 E st.o d w)(k:fS tt N ((B.here E Pp st.o d w).at d2) E2 JC D a2 z)(s:Mk w d E2 D.o a2.defers z):Mk w0 d0 E2 D.o a2.defers z:=by
 obtain⟨bs,rfl,h2,h3⟩:=m;obtain⟨g,h4,h5,h6⟩:=s;refine⟨g++bs,by simp[h4],?_,?_⟩
 ·rw[cV];refine⟨h5,h2,?_⟩;intro x v y t e;have:=(h6 x v).1;have:=(h3 y t).2.1;omega
 ·intro b hb;rcases bG.1 hb with hb|hb
  ·obtain⟨n,l,h,c⟩:=h6 b hb;exact⟨yO,l,h,c⟩
  ·obtain⟨n,l,h,c⟩:=h3 b hb;have hs:w.heap.size<=z.heap.size:=k.fr.size;refine⟨n,yO,?_,?_⟩
   ·rw[k.fr.block b l c];exact h
   ·rintro⟨i,o,ri,u,r2,r,p⟩;rcases k.fresh i o ri b u r2 r p with f|f
    ·have f:w.heap.size<=b:=f;omega
    ·exact c f
def qU(P:Program)(tt:TypeId->Option TI)(N n0:Nat)(r:Option Nat)(c:Code)(st:St)(Q:Ex->St->Prop):Prop:=∀B E Pp a w,B.E0.length=n0->fS tt N B E Pp st a w->c.wpIn (kS r) 0 P (λe g w'=>∃h f E' Pp',pn e h/\fS tt N (B.at g.defers) E' Pp' f g w'/\Mk w a.defers E' f.o g.defers w'/\w.heap.size<=w'.heap.size/\Q h f) a w
def qU.mono{P:Program}{n0:Nat}{r:Option Nat}{c:Code}{Q Q':Ex->St->Prop}(h:qU P tt N n0 r c st Q)(i:∀e s,Q e s->Q' e s):qU P tt N n0 r c st Q':=by intro B E Pp a w hb hs;exact wpIn_mono (h B E Pp a w hb hs) λe k w' ⟨g,f,E',Pp',h1,h2,h3,h4,h5⟩=>⟨g,f,E',Pp',h1,h2,h3,h4,i _ _ h5⟩
def tR:List Oper->Nat->Option Oper
 |[],_=>none|x::_,0=>some x|_::l,n+1=>tR l n
def tQ(l:List Oper)(n:Nat):tR l n=l[n]? :=by
 induction l generalizing n with
 |nil=>simp[tR]
 |cons x xs c=>cases n<;>simp[tR,c]
def Jw:Bool->Bool->Bool|true,true=>true|false,false=>true|_,_=>false
def dL:Bool->Bool|true=>false|false=>true
section
variable (A:pM) (G:ea) (C:iZ)
def sK(d:Option Nat)(v:PV)(st:St)(K:St->Prop):Prop:=match d with
 |some d=>bif gZ d G.n then(match st with|⟨s,o⟩=>K ⟨(d,v)::s,o⟩)else False
 |none=>K st
def guarded(all:List Oper)(o:Oper)(st:St)(run:St->(PV->St->Prop)->Prop)(K:St->Prop):Prop:=match o.guard with
 |none=>run st λv c=>sK G o.dst v c K
 |some (j,want)=>match tR all j with
  |none=>False
  |some oj=>match oj.dst with
   |none=>False
   |some q=>match look st.s q with
    | .bl b=>(match Jw b want with|true=>((run st λv c=>sK G o.dst v c K))|false=>(sK G o.dst (.tup []) st K))
    | .bool b=>(b=want->run ⟨(q,.bl want)::st.s,st.o⟩ λv c=>sK G o.dst v c K)/\
     (b=dL want->sK G o.dst (.tup []) ⟨(q,.bl (dL want))::st.s,st.o⟩ K)
    | .tup []=>sK G o.dst (.tup []) st K
    |_=>False
def xA(all:List Oper):List Oper->St->(St->Prop)->Prop
 |[],st,Q=>Q st
 |o::os,st,Q=>guarded G all o st (λst K=>dY A G C o st K) λc=>xA all os c Q
def nQ(e:Edge):Bool:=match e.ground with
 | .textOnly _=>false
 | .gcOnly _=>false
 |_=>true
def tS:List Edge->Nat
 |[]=>0
 |e::l=>bif nQ e then je (ep 1 e.on) (tS l)else tS l
def mE:Nat->List Oper->List (Nat×Nat×Oper)
 |_,[]=>[]
 |i,o::os=>(i,tS o.after.toList,o)::mE (i+1) os
def zI(m L:Nat):Bool:=nb (Nat.land m L) m
def jk(L:Nat):List (Nat×Nat×Oper)->List (Nat×Oper)
 |[]=>[]
 |(i,m,o)::r=>bif zI m L then(i,o)::jk L r else jk L r
def ix(i:Nat):List (Nat×Nat×Oper)->List (Nat×Nat×Oper)
 |[]=>[]
 |(j,m,o)::r=>bif nb j i then r else(j,m,o)::ix i r
def Lx:Op->Bool
 | .move _=>true
 | .assign _=>true
 | .pick _ _ _=>true
 | .load _ _=>true
 | .binOp _ _ _ _ _=>true
 | .unOp _ _ _=>true
 | .convert _ _ _=>true
 | .fieldAddr _ _ _=>true
 | .field _ _ _=>true
 | .indexAddr _ _ _=>true
 | .index _ _ _=>true
 | .build _ _=>true
 | .extract _ _=>true
 | .slice _ _ _ _ _=>true
 | .nilCheck _=>true
 | .makeFunc _ _ _=>true
 | .call { callee:=.builtin .len,.. }=>true
 | .call { callee:=.builtin .max,.. }=>true
 | .call { callee:=.builtin .min,.. }=>true
 |_=>false
def FP:List Edge->Bool
 |[]=>false
 |e::l=>match e.ground with
  | .phase=>true
  |_=>FP l
def Lw(o:Oper):Bool:=match o.dst with
 |some d=>eI d G.qC
 |none=>false
def LB:Op->Bool
 | .fieldAddr _ _ _=>true
 | .indexAddr _ _ _=>true
 | .move _=>true
 | .assign _=>true
 | .build _ _=>true
 | .extract _ _=>true
 | .binOp _ _ _ _ _=>true
 | .unOp _ _ _=>true
 | .convert _ _ _=>true
 |_=>false
def tX(o:Oper):Bool:=bif FP o.after.toList&&dL (LB o.op)then false else bif Lw G o then false else(Lx o.op&&fM (G.dV,G.live) o.op)
def AO{G:ea}{o:Oper}(h:tX G o=true):Lx o.op=true/\fM (G.dV,G.live) o.op=true:=by
 unfold tX at h;cases c:(FP o.after.toList&&dL (LB o.op))with
 |true=>rw[c]at h;cases h
 |false=>
  cases e:Lw G o with
  |true=>rw[c,e]at h;cases h
  |false=>rw[c,e]at h;simpa using h
def Ly{G:ea}{o:Oper}(h:tX G o=true):Lx o.op=true:=(AO h).1
def nS(L:Nat):List (Nat×Nat×Oper)->Option (Nat×Oper)
 |[]=>none
 |(i,m,o)::r=>bif tX G o&&zI m L then some (i,o)else nS L r
def kP:List Ob->List Ob
 |[]=>[]
 | .map _ _ _::l=>.dead::kP l
 | .iter _ _::l=>.dead::kP l
 | .diter _ _ _::l=>.dead::kP l
 | .loop _ _ _ _ _ _::l=>.dead::kP l
 |o::l=>o::kP l
def A4:List Ob->List Ob
 |[]=>[]
 |_::l=>.dead::A4 l
def zY(o:List Ob):List Ob:=match G.KU with
 |true=>A4 o
 |false=>kP o
def jQ(o:Op):Bool:=match G.KU with
 |true=>true
 |false=>fM (G.dV,G.live) o
def EF(f:Nat->Oper->Prop):List (Nat×Oper)->Prop
 |[]=>True
 |[x]=>f x.1 x.2
 |x::l=>f x.1 x.2/\EF f l
def Lv{α:Type}:List α->Bool
 |[]=>true
 |_::_=>false
def uT(ps:List Nat)(st:St):St:=match st with
 |⟨s,o⟩=>⟨Av ps s,cS (λr=>jG ps (ew o r)) ps⟩
def uP(n0:Nat)(f e:St):Prop:=∃c,(c=e\/∃ps,(jz ps&&xd n0 0 ps)=true/\c=uT ps e)/\(∀t,look f.s t=look c.s t)/\f.o=c.o
def mb(all:List Oper):Nat->List (Nat×Nat×Oper)->Nat->St->(St->Prop)->Prop
 |0,rest,L,st,Q=>match jk L rest with|[]=>Q st|_=>False
 |n+1,rest,L,st,Q=>match nS G L rest with
  |some (i,o)=>guarded G all o st (λst K=>cF A G.tt o.op o.type st.s (zY G st.o) λv=>K v st) λc=>mb all n (ix i rest) (je L (ep 1 i)) c Q
  |none=>match jk L rest with
   |[]=>Q st
   |r::e=>match G.ZW&&dL (Lv e)with
    |true=>guarded G all r.2 st (λst K=>dY A G C r.2 st K) λc=>mb all n (ix r.1 rest) (je L (ep 1 r.1)) c λf=>EF (λi o=>guarded G all o st (λst K=>dY A G C o st K) λc=>mb all n (ix i rest) (je L (ep 1 i)) c λg=>uP G.n0 f g) e/\Q f
    |false=>EF (λi o=>guarded G all o st (λst K=>dY A G C o st K) λc=>mb all n (ix i rest) (je L (ep 1 i)) c Q) (r::e)
def yr(all:List Oper):List Nat->St->(St->Prop)->Prop
 |[],st,Q=>Q st
 |i::p,st,Q=>match tR all i with
  |none=>False
  |some o=>(match tX G o with|true=>(guarded G all o st (λst K=>cF A G.tt o.op o.type st.s (zY G st.o) λv=>K v st) λc=>yr all p c Q)|false=>(guarded G all o st (λst K=>dY A G C o st K) λc=>yr all p c Q))
def Al:Nat->List (Nat×Nat×Oper)->Nat->List Nat->Bool
 |0,rest,L,p=>match jk L rest,p with
  |[],[]=>true
  |_,_=>false
 |n+1,rest,L,p=>match nS G L rest with
  |some (i,_)=>(match p with
   |j::p'=>nb i j&&Al n (ix i rest) (je L (ep 1 i)) p'
   |[]=>false)
  |none=>match jk L rest,p with
   |[],[]=>true
   |[(i,o)],j::p'=>nb i j&&(bif tX G o then false else true)&&Al n (ix i rest) (je L (ep 1 i)) p'
   |_,_=>false
def PU:List (Nat×List Nat)->Nat->Option (List Nat)
 |[],_=>none
 |(k,p)::r,i=>bif nb k i then some p else PU r i
def Lb(i:Nat)(o:Oper):Bool:=nX (λe=>nQ e&&nb e.on i) o.after.toList
def Lu:Op->Bool
 | .select _ _=>true
 | .defer _=>true
 |_=>false
def behind(i:Nat):Nat->List Nat->List Oper->List Nat
 |_,acc,[]=>acc
 |k,acc,o::l=>behind i (k+1) (bif nX (λe=>nQ e&&(bif nb e.on i then true else eI e.on acc)) o.after.toList then k::acc else acc) l
def tM(ops:Array Oper)(i:Nat)(oi:Oper)(Z:List Nat):Nat->List Oper->Bool
 |_,[]=>true
 |j,oj::l=>(bif nb i j then(match oi.dst with|some d=>bif eI d (oi.looksAt ops)then false else true|none=>true)else
  bif eI j Z then true else bif Lb j oi then true else Oper.apart ops oi oj&&jQ G oj.op)&&tM ops i oi Z (j+1) l
def qJ(ops:Array Oper)(all:List Oper):Nat->List Oper->Bool
 |_,[]=>true
 |i,o::l=>(bif Lu o.op then false else bif tX G o then tM G ops i o (behind i 0 [] all) 0 all else true)&&qJ ops all (i+1) l
def iY(s:cU)(all:List Oper):List Oper->List Nat
 |[]=>[]
 |o::l=>match o.op with
  | .slice _ (.tmp t) _ _ _=>gi (yd s t all) (iY s all l)
  |_=>iY s all l
 where yd (s:cU) (t:Nat):List Oper->List Nat
 |[]=>[]
 |o::l=>match o.dst,o.op with
  |some d,.move (.tmp u)=>bif nb d t then(match look s u with| .row _ r=>[r]|_=>[])else yd s t l
  |_,_=>yd s t l
def zC(c:Operand)(b:Bool)(st:St):St:=match c with
 | .tmp t=>⟨(t,.bl b)::st.s,st.o⟩
 |_=>st
def zE(id:Nat)(ops:Array Oper)(d:Bool)(st:St)(Q:St->Prop):Prop:=match d with
 |false=>xA A G C ops.toList ops.toList st Q
 |true=>match PU G.iT id with
  |none=>((False->False)->qJ G ops ops.toList 0 ops.toList=true)/\mb A G C ops.toList (ch ops.toList) (mE 0 ops.toList) 0 ⟨st.s,fw (iY st.s ops.toList ops.toList) 0 st.o⟩ Q
  |some p=>((False->False)->(qJ G ops ops.toList 0 ops.toList&&Al G (ch ops.toList) (mE 0 ops.toList) 0 p)=true)/\yr A G C ops.toList p ⟨st.s,fw (iY st.s ops.toList ops.toList) 0 st.o⟩ Q
def mC(LP:Code->St->(Ex->St->Prop)->Prop):Code->St->(Ex->St->Prop)->Prop
 | .skip,st,Q=>Q .normal st
 | .region id ops d,st,Q=>(match eI id G.nh with
  |true=>LP (.region id ops d) st Q
  |false=>zE A G C id ops d st (Q .normal))
 | .seq x y,st,Q=>mC LP x st λe f=>match e with| .normal=>mC LP y f Q| .exit i=>Q (.exit i) f| .ret=>Q .ret f
 | .cond c x y,st,Q=>match ev st.s c with
  | .bl true=>mC LP x st Q
  | .bl false=>mC LP y st Q
  | .bool t=>(t=true->mC LP x (zC c true st) Q)/\(t=false->mC LP y (zC c false st) Q)
  |_=>False
 | .block id c,st,Q=>mC LP c st λe f=>match e with| .exit j=>(match nb j id with|true=>Q .normal f|false=>Q (.exit j) f)| .normal=>Q .normal f| .ret=>Q .ret f
 | .exit id,st,Q=>Q (.exit id) st
 | .ret,st,Q=>Q .ret st
 | .loop c,st,Q=>LP (.loop c) st Q
 | .rangeFunc g ps c1 c2,st,Q=>LP (.rangeFunc g ps c1 c2) st Q
 |_,_,_=>False
def lR:Nat->List PV->cU
 |_,[]=>[]
 |i,p::ps=>(i,p)::lR (i+1) ps
def xF(st:St):List ResultVar->Option (List PV)
 |[]=>some []
 | .tmp t::r=>match xF st r with|some l=>some (wk 8 (norm (look st.s t))::l)|none=>none
 | .cell t ty::r=>match look st.s t,G.tt ty,xF st r with
  | .box b off,some ti,some l=>(match ew st.o b with
   | .box cs=>bif ir off dB&&ir (off+ch ti.bT) (ch cs)then some (wk 8 (fa ti (qh (ch ti.bT) (wb off cs)))::l)else none
   |_=>none)
  |_,_,_=>none
def xG(st:St)(l:List ResultVar):Option PV:=match xF G st l with
 |some [v]=>some v
 |some vs=>some (.tup vs)
 |none=>none
def BK(n0:Nat)(rs:List ResultVar)(st:St)(K:PV->List Ob->Prop):Prop:=match xG G st rs with
 |some v=>K (ng st.o 8 v) (PO n0 (fw (ids st.o 8 v) 0 st.o))
 |none=>False
 where PO:Nat->List Ob->List Ob
 |0,_=>[]|_,[]=>[]|n+1,x::xs=>x::PO n xs
def vS(n0:Nat)(st:St):Nat->List PV->Option (List PV×List Nat)
 |_,[]=>some ([],[])
 |k,p::l=>match p with
  | .row e r=>(match ew st.o r with
   | .row e' _ true=>bif nb e e'&&ir n0 r then(match vS n0 st (k+1) l with|some (ps,c)=>some (.row e k::ps,r::c)|none=>none)else none
   |_=>none)
  | .mp r=>(match ew st.o r with
   | .map _ _ _=>bif ir n0 r then(match vS n0 st (k+1) l with|some (ps,c)=>some (.mp k::ps,r::c)|none=>none)else none
   |_=>none)
  |p=>bif eu (ids st.o 8 p)then(match vS n0 st k l with|some (ps,c)=>some (ng st.o 8 p::ps,c)|none=>none)else none
def partsOf:PV->List PV×Bool
 | .tup cs=>(cs,true)
 |p=>([p],false)
def G2(b:Bool)(ps:List PV):PV:=bif b then .tup ps else match ps with|[p]=>p|_=>.undef
def BJ(n0:Nat)(c:List ResultVar)(st:St)(K:PV->List Ob->Prop):Prop:=match xG G st c with
 |some v=>(match vS n0 st 0 (partsOf v).1 with
  |some (ps,c)=>bif jz c then K (G2 (partsOf v).2 ps) (cS (ew st.o) c)else False
  |none=>False)
 |none=>False
def wC(n0:Nat)(c:List ResultVar)(st:St)(K:PV->List Ob->Prop):Prop:=match xG G st c with
 |some v=>BJ G n0 c (sinks (BS v) st) K
 |none=>False
def yJ{L:Nat}:∀{r:List (Nat×Nat×Oper)}{i:Nat}{o:Oper},nS G L r=some (i,o)->tX G o=true/\∃m,(i,m,o)∈r
 |[],i,o,h=>by simp[nS]at h
 |(k,m,x)::r,i,o,h=>by
  simp only[nS]at h;cases hf:(tX G x&&zI m L)with
  |true=>rw[hf]at h;simp at h;obtain⟨rfl,rfl⟩:=h;simp only[bw]at hf;exact⟨hf.1,m,by simp⟩
  |false=>rw[hf]at h;obtain⟨h1,m',h2⟩:=yJ h;exact⟨h1,m',by simp[h2]⟩
def sJ{L:Nat}:∀{r:List (Nat×Nat×Oper)}{i:Nat}{o:Oper},(i,o)∈jk L r->∃m,(i,m,o)∈r
 |[],i,o,h=>by simp[jk]at h
 |(k,m,x)::r,i,o,h=>by
  simp only[jk]at h;cases hf:zI m L with
  |true=>
   rw[hf]at h;simp only[cond_true,bN,gb]at h;rcases h with⟨rfl,rfl⟩|h
   ·exact⟨m,yS⟩
   ·obtain⟨m',h⟩:=sJ h;exact⟨m',by simp[h]⟩
  |false=>rw[hf]at h;obtain⟨m',h⟩:=sJ (yU h);exact⟨m',by simp[h]⟩
def A0{i:Nat}:∀{r:List (Nat×Nat×Oper)}{x:Nat×Nat×Oper},x∈ix i r->x∈r
 |[],x,h=>by simp[ix]at h
 |(k,m,y)::r,x,h=>by
  simp only[ix]at h;cases hb:nb k i with
  |true=>rw[hb]at h;simp at h;simp[h]
  |false=>
   rw[hb]at h;simp only[cond_false,bN]at h;rcases h with rfl|h
   ·simp
   ·simp[A0 h]
def wQ{all:List Oper}{Q:St->Prop}:∀(n:Nat)(rest:List (Nat×Nat×Oper))(L:Nat)(p:List Nat)(st:St),(∀i m o,(i,m,o)∈rest->tR all i=some o)->Al G n rest L p=true->yr A G C all p st Q=mb A G C all n rest L st Q
 |0,rest,L,p,st,hr,h=>by
  simp only[Al]at h;split at h
  ·rename_i h1;simp only[mb,h1,yr]
  ·simp at h
 |n+1,rest,L,p,st,hr,h=>by
  simp only[Al]at h;have g:∀k i m o,(i,m,o)∈ix k rest->tR all i=some o:=λk i m o f=>hr i m o (A0 f);split at h
  ·rename_i i o hf;split at h
   ·rename_i j p';simp only[bw]at h;have:=cR h.1;subst this;obtain⟨e,m,f⟩:=yJ G hf;have l:(λc=>yr A G C all p' c Q)=λc=>mb A G C all n (ix i rest) (je L (ep 1 i)) c Q:=funext λc=>wQ n _ _ p' c (g i) h.2;simp only[yr,hr i m o f,e,cond_true,mb,hf];rw[l]
   ·simp at h
  ·rename_i hf;split at h
   ·rename_i h1;simp only[mb,hf,h1,yr]
   ·rename_i i o j p' h1;simp only[bw]at h;have:=cR h.1.1;subst this;obtain⟨m,f⟩:=sJ (L:=L) (r:=rest) (i:=i) (o:=o) (by rw[h1];simp)
    have e:tX G o=false:=by
     cases s:tX G o with
     |false=>rfl
     |true=>rw[s]at h;simp at h
    have l:(λc=>yr A G C all p' c Q)=λc=>mb A G C all n (ix i rest) (je L (ep 1 i)) c Q:=funext λc=>wQ n _ _ p' c (g i) h.2;simp only[yr,hr i m o f,e,cond_false,mb,hf,h1,EF,Lv,dL,iI];rw[l]
   ·simp at h
end
section
variable {P:Program}{G:ea}{B:jc}{E:List RI}{Pp:fE}{w:World}{st:St}{a:Act}
variable {b want:Bool}{all:Array Oper}{o oj:Oper}{j q:Nat}
def zl{a:Bool}:Jw a b=true↔a=b:=by cases a<;>cases b<;>simp[Jw]
def H8(b:Bool):dL b= !b:=by cases b<;>rfl
def N9(a:Act)(d:Nat)(v:Value)(t:Nat)(c:d<a.tmps.size):(a.put (some d) v).tmps.getD t undef=if d=t then v else a.tmps.getD t undef:=by
 simp only[Act.put,bO,jf];split
 ·simp[c]
 ·rfl
def rk{v:Value}{pv:PV}{E':List RI}{Pp':fE}{w':World}{s':cU}{o':List Ob}{d:Option Nat}{K:St->Prop}(g:a.tmps.size=G.n)(e:a.defers=B.d0)(h:VR G.tt E' Pp' v pv)
 (hs:∀t,VR G.tt E' Pp' (a.tmps.getD t undef) (look s' t)) (f:cL G.tt B E' Pp' o' w') (hK:sK G d pv ⟨s',o'⟩ K):
 ∃c,fS G.tt G.n B E' Pp' c (a.put d v) w'/\K c/\c.o=o':=by
 cases d with
 |none=>exact⟨⟨s',o'⟩,cL.JP (st:=⟨s',o'⟩) f hs g e,hK,rfl⟩
 |some d=>
  simp only[sK]at hK;cases hb:gZ d G.n with
  |false=>rw[hb]at hK;exact hK.elim
  |true=>
   rw[hb]at hK;have c8:d+1<=G.n:=dK hb;refine⟨⟨(d,pv)::s',o'⟩,cL.JP (st:=⟨(d,pv)::s',o'⟩) f ?_ (by simp[Act.put,g]) e,hK,rfl⟩;intro t;rw[N9 a d v t (by omega),iK];split
   ·exact h
   ·exact hs t
def om{d:Nat}{c:Bool}(h:fS G.tt G.n B E Pp st a w)(hl:look st.s d= .bool b)(hb:b=c):fS G.tt G.n B E Pp ⟨(d,.bl c)::st.s,st.o⟩ a w:=by
 refine cL.JP (st:=⟨(d,.bl c)::st.s,st.o⟩) h.EX ?_ h.size h.defers;intro t;rw[iK];split
 ·rename_i e;subst e;have:=h.fk d;rw[hl]at this;generalize a.tmps.getD d undef=v at*;cases this;subst hb;exact .bl _
 ·exact h.fk t
def q0{p:PV}(l:o.guard=some (j,want))(k:all[j]? =some oj)(e:oj.dst=some q)(h:fS G.tt G.n B E Pp st a w)
 (hl:look st.s q=p) (i:p= .bl b\/p= .bool b):Region.wanted o (yielded all a.tmps)=Jw b want:=by
 have f:=h.fk q;rw[hl]at f
 have c:a.tmps[q]? =some (.bool b):=by
  have:a.tmps.getD q undef= .bool b:=by generalize a.tmps.getD q undef=v at*;rcases i with rfl|rfl<;>cases f<;>rfl
  rw[bO]at this;cases g:a.tmps[q]? with
  |none=>rw[g]at this;simp[undef]at this
  |some v=>rw[g]at this;simp at this;rw[this]
 simp only[Region.wanted,l,yielded,k,iy,e,c];cases b<;>cases want<;>rfl
def Bq(i:o.guard=some (j,want))(g:all[j]? =some oj)(e:oj.dst=some q)(h:fS G.tt G.n B E Pp st a w)
 (hl:look st.s q= .tup []):Region.wanted o (yielded all a.tmps)=false:=by
 have f:=h.fk q;rw[hl]at f
 have c:a.tmps.getD q undef= .tuple ⟨[]⟩:=by
  generalize a.tmps.getD q undef=v at*;cases f with
  |tup vs _ hl=>cases hl;rfl
 rw[bO]at c;simp only[Region.wanted,i,yielded,g,iy,e];cases k:a.tmps[q]? with
 |none=>rfl
 |some v=>rw[k]at c;simp at c;rw[c];cases want<;>rfl
def sQ{r:Option Nat}(hB:B.E0.length=G.n0){all:Array Oper}{o:Oper}{K:St->Prop}{run:St->(PV->St->Prop)->Prop}{next:Act->World->Prop}{Q:Exit->Act->World->Prop}{k:Nat}(hk:all[k]? =some o)
 (l:∀t,fS G.tt G.n B E Pp t a w->t.o=st.o->run t (λv g=>sK G o.dst v g K)->Region.wanted o (yielded all a.tmps)=true->o.wpIn (kS r) 0 P a w next Q)
 (n:∀c,fS G.tt G.n B E Pp c (a.put o.dst undef) w->K c->Region.wanted o (yielded all a.tmps)=false->c.o=st.o->next (a.put o.dst undef) w)
 (h:fS G.tt G.n B E Pp st a w) (e:guarded G all.toList o st run K):wpOpIn (kS r) 0 P all Q k next a w:=by
 unfold wpOpIn;simp only[hk];have skip:∀(g:St),fS G.tt G.n B E Pp g a w->g.o=st.o->sK G o.dst (.tup []) g K->Region.wanted o (yielded all a.tmps)=false->next (a.put o.dst undef) w:=by intro g u H hc F;obtain⟨c,h1,h2,h3⟩:=rk (v:=undef) u.size u.defers (.tup [] [] .nil) u.fk u.EX hc;exact n c h1 h2 F (h3.trans H)
 unfold guarded at e;split at e
 ·rename_i i;have lA:Region.wanted o (yielded all a.tmps)=true:=by simp[Region.wanted,i]
  rw[if_pos lA];exact l st h rfl e lA
 ·rename_i j want i;split at e
  ·exact e.elim
  rename_i oj x;rw[tQ]at x;have p:all[j]? =some oj:=by simpa using x
  split at e
  ·exact e.elim
  rename_i q s;split at e
  ·rename_i b hl;have lA:=q0 i p s h hl (.inl rfl);cases hb:Jw b want with
   |true=>rw[hb]at e lA;rw[if_pos lA];exact l st h rfl e lA
   |false=>rw[hb]at e lA;rw[if_neg (by rw[lA];simp)];exact⟨λ_ _=>trivial,skip st h rfl e lA⟩
  ·rename_i b hl;have lA:=q0 i p s h hl (.inr rfl);cases hb:Jw b want with
   |true=>have m:=zl.1 hb;rw[hb]at lA;rw[if_pos lA];exact l _ (om h hl m) rfl (e.1 m) lA
   |false=>
    have m:b=dL want:=by rw[H8];cases b<;>cases want<;>simp_all[Jw]
    rw[hb]at lA;rw[if_neg (by rw[lA];simp)];exact⟨λ_ _=>trivial,skip _ (om h hl m) rfl (e.2 m) lA⟩
  ·rename_i hl;have y:=h.fk q;rw[hl]at y
   have f:a.tmps.getD q undef= .tuple ⟨[]⟩:=by
    generalize a.tmps.getD q undef=v at*;cases y with
    |tup vs _ hl=>cases hl;rfl
   have lA:Region.wanted o (yielded all a.tmps)=false:=by
    rw[bO]at f;simp only[Region.wanted,i,yielded,p,iy,s];cases I:a.tmps[q]? with
    |none=>rfl
    |some v=>rw[I]at f;simp at f;rw[f];cases want<;>rfl
   rw[if_neg (by rw[lA];simp)];exact⟨λ_ _=>trivial,skip st h rfl e lA⟩
  ·exact e.elim
def An{r:Option Nat}(g:ec P G.tt)(hB:B.E0.length=G.n0){all:Array Oper}{Q:St->Prop}{Q':Exit->Act->World->Prop}(s:∀E Pp st a w,fS G.tt G.n B E Pp st a w->Q st->Q' .normal a w):
 ∀(l:List Oper)(k:Nat),all.toList.drop k=l->∀(st:St)(E:List RI)(Pp:fE)(a:Act)(w:World),fS G.tt G.n B E Pp st a w->xA dz G (jT P G.tt) all.toList l st Q->
  wpOpsIn (kS r) 0 P all Q' (List.range' k l.length) a w:=by
 intro l;induction l with
 |nil=>intro k _ st E Pp a w h hr;exact s _ _ _ _ _ h hr
 |cons o os i=>
  intro k hk st E Pp a w h hr
  have c8:k<all.toList.length:=by
   rcases bV k all.toList.length with f|f
   ·exact f
   ·rw[fo f]at hk;simp at hk
  have ek:all[k]? =some o:=by rw[bF c8]at hk;simp only[gN]at hk;rw[<- hk.1];simp
  have e:all.toList.drop (k+1)=os:=by rw[bF c8]at hk;simp only[gN]at hk;exact hk.2
  simp only[bM,List.range'_succ,wpOpsIn_cons];refine sQ hB ek ?_ ?_ h hr
  ·intro st h _ hc _;refine Oper.wpIn_mono ?_ (tw g hB h.EX h.fk hc);rintro t w' ⟨p,E',Pp',v,pv,rfl,n,hs,m,hK,_,_⟩;obtain⟨c,h1,h2,_⟩:=rk h.size h.defers n hs m hK;exact i (k+1) e c E' Pp' _ w' h1 h2
  ·intro c h1 h2 _ _;exact i (k+1) e c E Pp _ w h1 h2
end
end
end Go.VC
